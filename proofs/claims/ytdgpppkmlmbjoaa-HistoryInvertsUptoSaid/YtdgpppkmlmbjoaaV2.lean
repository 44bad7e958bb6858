/- An evaluator of this program's code over plain values, proved sound: part 2. -/
import Derived.Scope
import Derived.Defers
import Derived.KernelRfl
import Derived.Deep.Slices
import Derived.ChangeArms
import Derived.Carry
import Derived.RowKit
import Derived.OpenShut
import Derived.ChangeOld
import Derived.Test.YtdgpppkmlmbjoaaV1
/- append, conversions. -/
namespace Go.Vs
section
variable {K : Ctx} {β : Key → Option Nat} {ω : Nat → Option Holder} {Z : Nat → Prop} {s : St} {a : Act} {w : World} {cfg : Cfg} (hT : Tabs K.P cfg)
theorem zeroCells_size (z : Array Value) (n : Nat) : (Builtin.zeroCells z n).size = n * z.size := by simp [Builtin.zeroCells]
/-- a new row for the old elements and the new ones -/
theorem run_append_grow {P : Program} {t t2 et : TypeId} {i : TI} {z : List D} (hun : (underlying t).run P w = .ok (.slice et) w) {d2 : TypeDesc} (hun2 : (underlying t2).run P w = .ok d2 w) (hd2 : ∀ k, d2 ≠ .int k)
    (hi : tiOf P et = some i) (hz : i.zero = some z) (hb0 : 0 < i.bytes) (hb : i.bytes ≤ 2 ^ 10) {base : Option Addr} {sLen sCap n : Nat} {x : Value} (hlen : (Builtin.lenOf x).run P w = .ok n w) (hgt : sCap < sLen + n) (hbound : sLen + n ≤ 2 ^ 36)
    {old new : Array Value} (hold : ∀ W : World, W.heap = w.heap → (Builtin.firstCells i.size sLen (.slice base sLen sCap)).run P W = .ok old W) (hnew : ∀ W : World, W.heap = w.heap → (Builtin.firstCells i.size n x).run P W = .ok new W) {ty : TypeId} :
    ∃ (cap : Nat) (rest : Array Value), sLen + n ≤ cap ∧ (∀ zs : Nat, zs = z.length → rest.size = (cap - (sLen + n)) * zs) ∧
      (Builtin.append_ #[t, t2] ty #[.slice base sLen sCap, x]).run P w = .ok (.slice (some ⟨w.heap.size, 0, none⟩) (sLen + n) cap) (({ w with drawn := w.drawn + 1 } : World).alloc (.cells (old ++ new ++ rest) et)) := by
  obtain ⟨info, hinfo, hin1, hin2, _⟩ := run_typeInfo (w := w) hi
  obtain ⟨info', hinfo', hin1', hin2', _⟩ := run_typeInfo (w := { w with drawn := w.drawn + 1 }) hi
  obtain ⟨zv, hzv, hrf⟩ := run_zeroValue (w := { w with drawn := w.drawn + 1 }) hi hz
  have hzd := (reflectAll_rel' (w := w) (Z := fun _ => True) hrf).length
  have hnext := nextslicecap_le hgt
  have hnb : ¬ (Builtin.nextslicecap (sLen + n) sCap * i.bytes > 2 ^ 48) := by
    have h1 : Builtin.nextslicecap (sLen + n) sCap * i.bytes ≤ (2 * 2 ^ 36 + 192) * 2 ^ 10 := Nat.mul_le_mul (by omega) hb
    have h2 : (2 * 2 ^ 36 + 192) * 2 ^ 10 ≤ 2 ^ 48 := by decide
    omega
  refine ⟨(Question.appendCap (sLen + n) sCap et).cut (w.tape w.drawn (.appendCap (sLen + n) sCap et)), Builtin.zeroCells zv.cells ((Question.appendCap (sLen + n) sCap et).cut (w.tape w.drawn (.appendCap (sLen + n) sCap et)) - (sLen + n)), ?_, ?_, ?_⟩
  · simp only [Question.cut]; omega
  · intro zs hzs
    rw [zeroCells_size]
    have : zv.cells.size = z.length := by simpa using hzd
    rw [this, hzs]
  · have hz2 : (match d2 with | .int _ => true | _ => false) = false := by cases d2 <;> first | rfl | exact absurd rfl (hd2 _)
    have hchoose : (choose (.appendCap (sLen + n) sCap et)).run P w = .ok ((Question.appendCap (sLen + n) sCap et).cut (w.tape w.drawn (.appendCap (sLen + n) sCap et))) { w with drawn := w.drawn + 1 } := by
      simp [choose, Sem.run, Question.forced]
    simp only [Builtin.append_, Array.getElem?_toList, List.getElem?_toArray, List.getElem?_cons_zero, List.getElem?_cons_succ, Sem.run_bind, hun, Result.andThen_ok, run_sizeOf hi, hun2, Sem.run_pure, hz2, Bool.false_eq_true, if_false, hlen, Bool.not_false, if_true]
    rw [if_neg (by omega)]
    simp only [Sem.run_bind, hinfo, Result.andThen_ok, hin2]
    rw [if_neg (by simp; omega)]
    simp only [Sem.run_bind, hinfo, Result.andThen_ok, hin2]
    rw [if_neg hnb]
    simp only [Sem.run_bind, hchoose, Result.andThen_ok, hinfo', run_askRoom, hold { w with drawn := w.drawn + 1 } rfl, hnew { w with drawn := w.drawn + 1 } rfl, hzv, run_newRow, Sem.run_pure]
theorem run_append_in {P : Program} {t t2 et : TypeId} {i : TI} (hun : (underlying t).run P w = .ok (.slice et) w) {d2 : TypeDesc} (hun2 : (underlying t2).run P w = .ok d2 w) (hd2 : ∀ k, d2 ≠ .int k)
    (hi : tiOf P et = some i) {base : Option Addr} {sLen sCap n : Nat} {x : Value} (hlen : (Builtin.lenOf x).run P w = .ok n w) (hle : sLen + n ≤ sCap)
    {new : Array Value} (hnew : (Builtin.firstCells i.size n x).run P w = .ok new w) {w' : World} (hst : ∀ ad, base = some ad → (storeCells (ad.add (sLen * i.size)) new.toList).run P w = .ok () w') (hnone : base = none → w' = w) {ty : TypeId} :
    (Builtin.append_ #[t, t2] ty #[.slice base sLen sCap, x]).run P w = .ok (.slice base (sLen + n) sCap) w' := by
  have hz2 : (match d2 with | .int _ => true | _ => false) = false := by cases d2 <;> first | rfl | exact absurd rfl (hd2 _)
  simp only [Builtin.append_, List.getElem?_toArray, List.getElem?_cons_zero, List.getElem?_cons_succ, Sem.run_bind, hun, Result.andThen_ok, run_sizeOf hi, hun2, Sem.run_pure, hz2, Bool.false_eq_true, if_false, hlen, Bool.not_false, if_true]
  rw [if_pos hle]
  simp only [Sem.run_bind, hnew, Result.andThen_ok]
  cases base with
  | none => rw [hnone rfl]; rfl
  | some ad => simp only [Sem.run_bind, hst ad rfl, Result.andThen_ok, Sem.run_pure]
/-- zeros behind nil -/
theorem run_append_make {P : Program} {t t2 et : TypeId} {i : TI} {z : List D} (hun : (underlying t).run P w = .ok (.slice et) w) (hun2 : (underlying t2).run P w = .ok (.int .i64) w)
    (hi : tiOf P et = some i) (hz : i.zero = some z) (hzs : z.length = i.size) (hs0 : 0 < i.size) (hb0 : 0 < i.bytes) (hb : i.bytes ≤ 2 ^ 10) {k : IntKind} {n : Int} (hn : 0 ≤ n) (hbound : n ≤ 2 ^ 36) {ty : TypeId} :
    (n.toNat = 0 → (Builtin.append_ #[t, t2] ty #[.slice none 0 0, .int k n]).run P w = .ok (.slice none 0 0) w) ∧
    (n.toNat ≠ 0 → ∃ (cap : Nat) (zv : Array Value), n.toNat ≤ cap ∧ (∀ (w : World) (Z : Nat → Prop), DL w Z zv.toList z) ∧
      (Builtin.append_ #[t, t2] ty #[.slice none 0 0, .int k n]).run P w = .ok (.slice (some ⟨w.heap.size, 0, none⟩) n.toNat cap) (({ w with drawn := w.drawn + 1 } : World).alloc (.cells (Builtin.zeroCells zv n.toNat ++ Builtin.zeroCells zv (cap - n.toNat)) et))) := by
  obtain ⟨info, hinfo, hin1, hin2, _⟩ := run_typeInfo (w := w) hi
  obtain ⟨info', hinfo', hin1', hin2', _⟩ := run_typeInfo (w := { w with drawn := w.drawn + 1 }) hi
  obtain ⟨zv, hzv, hrf⟩ := run_zeroValue (w := { w with drawn := w.drawn + 1 }) hi hz
  have hzd : ∀ (w : World) (Z : Nat → Prop), DL w Z zv.cells.toList z := fun w Z => reflectAll_rel' (w := w) (Z := Z) hrf
  have hw : IntKind.i64.wrap n = n := by
    simp only [IntKind.wrap, IntKind.bits, IntKind.signed]
    simp
    omega
  have hbytes : n * i.bytes ≤ 2 ^ 48 := by
    have h1 : n * i.bytes ≤ 2 ^ 36 * 2 ^ 10 := Int.mul_le_mul (by omega) (by omega) (by omega) (by decide)
    omega
  constructor
  · intro h0
    simp only [Builtin.append_, List.getElem?_toArray, List.getElem?_cons_zero, List.getElem?_cons_succ, Sem.run_bind, hun, Result.andThen_ok, run_sizeOf hi, hun2, Sem.run_pure, if_true, asInt, asIntOf, hw, hinfo, hin2]
    rw [if_neg (by omega)]
    simp only [Sem.run_bind, hinfo, Result.andThen_ok, hin2]
    rw [if_neg (by omega)]
    simp only [Sem.run_pure, Result.andThen_ok, h0]
    simp [Sem.run_pure, Sem.run_bind]
  · intro h0
    have hgt : 0 < 0 + n.toNat := by omega
    have hnext := nextslicecap_le hgt
    have hnb : ¬ (Builtin.nextslicecap (0 + n.toNat) 0 * i.bytes > 2 ^ 48) := by
      have h1 : Builtin.nextslicecap (0 + n.toNat) 0 * i.bytes ≤ (2 * 2 ^ 36 + 192) * 2 ^ 10 := Nat.mul_le_mul (by omega) hb
      have h2 : (2 * 2 ^ 36 + 192) * 2 ^ 10 ≤ 2 ^ 48 := by decide
      omega
    have hchoose : (choose (.appendCap (0 + n.toNat) 0 et)).run P w = .ok ((Question.appendCap (0 + n.toNat) 0 et).cut (w.tape w.drawn (.appendCap (0 + n.toNat) 0 et))) { w with drawn := w.drawn + 1 } := by
      simp [choose, Sem.run, Question.forced]
    refine ⟨(Question.appendCap (0 + n.toNat) 0 et).cut (w.tape w.drawn (.appendCap (0 + n.toNat) 0 et)), zv.cells, ?_, hzd, ?_⟩
    · simp only [Question.cut]; omega
    · simp only [Builtin.append_, List.getElem?_toArray, List.getElem?_cons_zero, List.getElem?_cons_succ, Sem.run_bind, hun, Result.andThen_ok, run_sizeOf hi, hun2, Sem.run_pure, if_true, asInt, asIntOf, hw, hinfo, hin2]
      rw [if_neg (by omega)]
      simp only [Sem.run_bind, hinfo, Result.andThen_ok, hin2]
      rw [if_neg (by omega)]
      simp only [Sem.run_bind, Sem.run_pure, Result.andThen_ok]
      rw [if_neg (by omega)]
      simp only [Sem.run_bind, hinfo, Result.andThen_ok, hin2]
      rw [if_neg (by simp [IntKind.max, IntKind.bits, IntKind.signed]; omega)]
      simp only [Sem.run_bind, hinfo, Result.andThen_ok, hin2]
      rw [if_neg hnb]
      have hfc : (Builtin.firstCells i.size 0 (.slice none 0 0)).run P { w with drawn := w.drawn + 1 } = .ok #[] { w with drawn := w.drawn + 1 } := by simp [Builtin.firstCells]
      simp only [Sem.run_bind, hchoose, Result.andThen_ok, hinfo', run_askRoom, hfc]
      rw [if_neg (by simp), if_neg (by intro h; rcases Nat.mul_eq_zero.1 h with h | h <;> omega)]
      simp only [Sem.run_bind, hzv, Result.andThen_ok, Sem.run_pure, run_newRow]
      simp
include hT in
theorem cap_yield (h : Rel K β ω Z s a w) {args : Array Operand} {tys : Array TypeId} {dst : Nat} {o : Oper} (ho : o.op = .call { callee := .builtin .cap, args, argTypes := tys }) {v : SV} {s' : St} (he : (aval cfg o.op dst).exec s = some (v, s')) :
    Yield K s' a dst ((execOp a.eval o).run K.P w) v := by
  rw [ho] at he
  simp only [aval] at he
  split at he
  · rename_i x t hx ht
    have hargs : args = #[x] := by apply Array.toList_inj.1; simpa using hx
    have htys : tys = #[t] := by apply Array.toList_inj.1; simpa using ht
    subst hargs; subst htys
    split at he
    · rename_i hti
      obtain ⟨c1, s1, h1, he2⟩ := exec_bind' he
      obtain ⟨hs1, o1, r1, hno1⟩ := ev1_spec h h1
      rw [hs1] at he2
      unfold capP at he2
      split at he2
      · have e1 : a.eval x = .slice none 0 0 := r1
        obtain ⟨rfl, rfl⟩ := exec_ret he2
        obtain ⟨d, hd, hk, hun⟩ := run_underlying' (w := w) (hT.T _ _ hti)
        have hdd := tk_slice hk
        subst hdd
        refine Yield.d h (u := .int .i64 0) ?_ rfl
        simp [execOp, ho, resolve, invoke, builtin, Builtin.cap_, e1, hun, goInt]
      · simp [Prog.exec] at he2
    · simp [Prog.exec] at he
  · simp [Prog.exec] at he
include hT in
theorem appendMake_yield (h : Rel K β ω Z s a w) {x y : Operand} {t t2 et : TypeId} {i i0 i2 : TI} {dst : Nat} {o : Oper} (ho : o.op = .call { callee := .builtin .append, args := #[x, y], argTypes := #[t, t2] })
    (hti : cfg.ti t = some i0) (hk0 : i0.kind = .slice et) (hft : cfg.ti et = some i) (hti2 : cfg.ti t2 = some i2) (hk2 : i2.kind = .int .i64) {v : SV} {s' : St}
    (he : (do let c ← ev1 x; let n ← cInt (← ev1 y); appendMakeP i c n : Prog SV).exec s = some (v, s')) :
    Yield K s' a dst ((execOp a.eval o).run K.P w) v := by
  obtain ⟨c1, s1, h1, he2⟩ := exec_bind' he
  obtain ⟨hs1, o1, r1, hno1⟩ := ev1_spec h h1
  rw [hs1] at he2
  obtain ⟨c2, s2, h2, he3⟩ := exec_bind' he2
  obtain ⟨hs2, o2, r2, hno2⟩ := ev1_spec h h2
  rw [hs2] at he3
  obtain ⟨n, s3, h3, he4⟩ := exec_bind' he3
  obtain ⟨hs3, k, hc2⟩ := cInt_spec h3
  rw [hs3] at he4
  subst hc2
  have e2 : a.eval y = .int k n := r2
  unfold appendMakeP at he4
  split at he4
  · rename_i z hz
    have e1 : a.eval x = .slice none 0 0 := r1
    obtain ⟨_, s5, h5, he5⟩ := exec_bind' he4
    obtain ⟨⟨hzs, hpos, hb0, hb⟩, hs5⟩ := exec_need h5
    rw [hs5] at he5
    obtain ⟨_, s6, h6, he6⟩ := exec_bind' he5
    obtain ⟨⟨hn0, hn1⟩, hs6⟩ := exec_need h6
    rw [hs6] at he6
    obtain ⟨d, hd, hk, hun⟩ := run_underlying' (w := w) (hT.T _ _ hti)
    rw [hk0] at hk
    have hdd := tk_slice hk
    subst hdd
    obtain ⟨d2, hd2, hk', hun2⟩ := run_underlying' (w := w) (hT.T _ _ hti2)
    rw [hk2] at hk'
    have hdd2 := tk_int hk'
    subst hdd2
    have hexec : (execOp a.eval o).run K.P w = ((Builtin.append_ #[t, t2] o.type #[a.eval x, a.eval y]).run K.P w).andThen fun u w' => .ok (.value u) w' := by
      simp [execOp, ho, resolve, invoke, builtin]
    obtain ⟨q0, q1⟩ := run_append_make (P := K.P) (w := w) hun hun2 (hT.T _ _ hft) hz hzs hpos hb0 hb (k := k) hn0 hn1 (ty := o.type)
    split at he6
    · rename_i hn
      obtain ⟨hx', hs7⟩ := exec_ret he6
      rw [hs7, hx']
      refine Yield.d h (u := .slice none 0 0) ?_ rfl
      rw [hexec, e1, e2, q0 hn]
      rfl
    · rename_i hn
      obtain ⟨hx', hs7⟩ := exec_ret he6
      rw [hs7, hx']
      obtain ⟨cap, zv, p1, p2, p3⟩ := q1 hn
      obtain ⟨r5, k5⟩ := h.drew
      have hsz : zv.size = i.size := by have := (p2 w Z).length; simp at this; omega
      refine newRow_yield r5 (len := n.toNat) (cap := cap) (ws := Builtin.zeroCells zv n.toNat ++ Builtin.zeroCells zv (cap - n.toNat)) (el := et) ?_ (by simp) p1 ?_ (by intro r hr; rw [List.eq_of_mem_replicate hr, hzs]) (fun j d hj => ?_)
      · rw [hexec, e1, e2, p3]; rfl
      · simp only [Array.size_append, zeroCells_size, hsz]
        rw [← Nat.add_mul]
        exact Nat.mul_le_mul_right _ (by omega)
      · have hcells : (Builtin.zeroCells zv n.toNat).toList = (List.replicate n.toNat zv.toList).flatten := zeroRow zv n.toNat
        obtain ⟨u, g1, g2⟩ := (replicate_DL (p2 { w with drawn := w.drawn + 1 } Z) n.toNat).get hj
        refine ⟨u, ?_, g2⟩
        rw [← hcells] at g1
        have hlt : j < (Builtin.zeroCells zv n.toNat).size := by simpa using (List.getElem?_eq_some_iff.1 g1).1
        rw [Array.getElem?_append_left hlt, ← Array.getElem?_toList]
        exact g1
  · simp [Prog.exec] at he4
include hT in
theorem append_yield (h : Rel K β ω Z s a w) {args : Array Operand} {tys : Array TypeId} {dst : Nat} {o : Oper} (ho : o.op = .call { callee := .builtin .append, args, argTypes := tys }) {v : SV} {s' : St} (he : (aval cfg o.op dst).exec s = some (v, s')) :
    Yield K s' a dst ((execOp a.eval o).run K.P w) v := by
  rw [ho] at he
  simp only [aval] at he
  split at he
  · rename_i x y t t2 hx ht
    have hargs : args = #[x, y] := by apply Array.toList_inj.1; simpa using hx
    have htys : tys = #[t, t2] := by apply Array.toList_inj.1; simpa using ht
    subst hargs; subst htys
    split at he
    · rename_i size bytes et zz hti
      split at he
      · rename_i i hft
        split at he
        · rename_i hti2
          exact appendMake_yield hT h ho hti rfl hft hti2 rfl he
        rename_i hnot2
        obtain ⟨c1, s1, h1, he2⟩ := exec_bind' he
        obtain ⟨hs1, o1, r1, hno1⟩ := ev1_spec h h1
        rw [hs1] at he2
        obtain ⟨c2, s2, h2, he3⟩ := exec_bind' he2
        obtain ⟨hs2, o2, r2, hno2⟩ := ev1_spec h h2
        rw [hs2] at he3
        obtain ⟨ys, s3, h3, he4⟩ := exec_bind' he3
        obtain ⟨hs3, ⟨hlen, hyl, arr, harr, hdl, hone⟩, d2, hun2, hd2⟩ := added_spec hT h r2 h3
        rw [hs3] at he4
        obtain ⟨d, hd, hk, hun⟩ := run_underlying' (w := w) (hT.T _ _ hti)
        have hdd := tk_slice hk
        subst hdd
        have hexec : (execOp a.eval o).run K.P w = ((Builtin.append_ #[t, t2] o.type #[a.eval x, a.eval y]).run K.P w).andThen fun u w' => .ok (.value u) w' := by
          simp [execOp, ho, resolve, invoke, builtin]
        unfold appendP at he4
        obtain ⟨_, s4, h4, he5⟩ := exec_bind' he4
        obtain ⟨⟨hpos, hb0, hb, hzl⟩, hs4⟩ := exec_need h4
        rw [hs4] at he5
        obtain ⟨z, hz⟩ : ∃ z, i.zero = some z := by
          cases hzz : i.zero with
          | none => rw [hzz] at hzl; cases hzl
          | some z => exact ⟨z, rfl⟩
        have hzs : z.length = i.size := by rw [hz] at hzl; simpa using hzl
        have harrl : arr.size = ys.length * i.size := by
          have := hdl.length
          rw [flatten_len hyl] at this
          simpa using this
        split at he5
        · -- onto nil
          have e1 : a.eval x = .slice none 0 0 := r1
          obtain ⟨_, s5, h5, he6⟩ := exec_bind' he5
          obtain ⟨hmax, hs5⟩ := exec_need h5
          rw [hs5] at he6
          split at he6
          · rename_i hnil
            obtain ⟨hx', hs6⟩ := exec_ret he6
            rw [hs6, hx']
            refine Yield.d h (u := .slice none 0 0) ?_ rfl
            rw [hexec, e1, run_append_in hun hun2 hd2 (hT.T _ _ hft) hlen (by rw [hnil]; simp) (harr w rfl) (w' := w) (by intro ad h; cases h) (fun _ => rfl)]
            simp [hnil]
          · rename_i hnil
            obtain ⟨hx', hs6⟩ := exec_ret he6
            rw [hs6, hx']
            have hy0 : 0 < ys.length := List.length_pos_iff.2 hnil
            obtain ⟨cap, rest, q1, q2, q3⟩ := run_append_grow (P := K.P) (w := w) hun hun2 hd2 (hT.T _ _ hft) hz hb0 hb hlen (base := none) (sLen := 0) (sCap := 0) (by omega) (by omega) (old := #[]) (fun W _ => by simp [Builtin.firstCells]) harr (ty := o.type)
            obtain ⟨r5, k5⟩ := h.drew
            refine newRow_yield r5 (len := ys.length) (cap := cap) (ws := #[] ++ arr ++ rest) (el := et) ?_ rfl (by omega) ?_ hyl (fun j d hj => ?_)
            · rw [hexec, e1, q3]; simp
            · have := q2 i.size hzs.symm
              simp only [Array.size_append, harrl, this, Array.size_empty]
              rw [Nat.zero_add, Nat.zero_add, ← Nat.add_mul]
              exact Nat.mul_le_mul_right _ (by omega)
            · obtain ⟨u, g1, g2⟩ := hdl.get hj
              refine ⟨u, ?_, DRel.mono (w := w) (w' := { w with drawn := w.drawn + 1 }) (Z := Z) (Z' := Z) (fun b hb => ⟨rfl, hb⟩) _ _ g2⟩
              have hjl : j < arr.size := by simpa using (List.getElem?_eq_some_iff.1 g1).1
              rw [Array.getElem?_append_left (by simp; omega), Array.empty_append]
              simpa using g1
        · rename_i r j hv cv e k xs
          simp only [Prog.exec] at he5
          obtain ⟨_, s5, h5, he6⟩ := exec_bind' he5
          obtain ⟨⟨hhv, hcv, hei, hra⟩, hs5⟩ := exec_need h5
          rw [hs5] at he6
          split at he6
          · rename_i e0 zs hat
            obtain ⟨_, s6, h6, he7⟩ := exec_bind' he6
            obtain ⟨hfull, hs6⟩ := exec_need h6
            rw [hs6] at he7
            obtain ⟨_, s7, h7, he8⟩ := exec_bind' he7
            obtain ⟨hmax, hs7⟩ := exec_need h7
            rw [hs7] at he8
            obtain ⟨_, s8, h8, he9⟩ := exec_bind' he8
            obtain ⟨hx', hs9⟩ := exec_ret he9
            rw [hs9, hx']
            obtain ⟨ad, cap, e1, g2, g3, g4⟩ := bor_rows' h r1 hhv hcv (alive_of_own hat)
            obtain ⟨ad', cap', f1, _, _, _, ad0, len0, cap0, ys0, f2, f3, f4, f4b, f5, f6, f7⟩ := bor_rows h r1 hhv hcv (alive_of_own hat)
            rw [e1] at f1
            cases f1
            obtain ⟨e9, ys9, ad9, cap9, ω', t1, t2', t3, t4, t5, t6, t7, t8, t9, t10⟩ := takeAt_spec h hra h8 (.tmp dst, some 0)
            rw [t2'] at f2
            cases f2
            rw [hat] at t1
            cases t1
            have hee : e0 = e := by
              rcases f6 with f6 | f6 <;> rw [hat] at f6 <;> cases f6; rfl
            subst hee
            have hd1 : DL w Z arr.toList ys.flatten := hdl
            by_cases hcap : xs.length + ys.length ≤ cap
            · -- in place
              have hblk : ad.block = ad0.block := f3
              obtain ⟨ws, el, lo, hi, w1, w2, w3⟩ := t9
              have hfit : ad.off + cap * e0 ≤ ws.size := by omega
              have hfit2 : xs.length * e0 + ys.length * e0 ≤ cap * e0 := by rw [← Nat.add_mul]; exact Nat.mul_le_mul_right _ hcap
              obtain ⟨w', ws', p1, p2, p3⟩ := run_storeCells (P := K.P) (b := ad.block) (o := ad.off + xs.length * e0) arr.toList 0 w ws (by rw [hblk]; exact w1) w3 (by simp only [Array.length_toList, harrl, ← hei]; omega) hone
              have hws' : ws'.toList = splice ws.toList (ad.off + xs.length * e0) arr.toList := by simpa using p3
              rw [hblk] at p2
              obtain ⟨n1, n2, n3, n4⟩ := t6.writeFree t8 t10 p2
              have hZ : ∀ b, Z b → w'.heap[b]? = w.heap[b]? ∧ Z b := fun b hb => ⟨p2.other b (fun e => (t6.ωok _ _ t8).1 (e ▸ hb)), hb⟩
              have hcell : ∀ q, w'.cell? ⟨ad.block, q, none⟩ = if ad.off + xs.length * e0 ≤ q ∧ q < ad.off + xs.length * e0 + ys.length * e0 then (arr.toList)[q - (ad.off + xs.length * e0)]? else w.cell? ⟨ad.block, q, none⟩ := by
                intro q
                have h1 : w'.cell? ⟨ad.block, q, none⟩ = ws'.toList[q]? := by simp [World.cell?, hblk, p2.here]
                rw [h1, hws', splice_get (by simp only [Array.length_toList, harrl, ← hei]; omega)]
                simp only [Array.length_toList, harrl, ← hei]
                split
                · rfl
                · simp [World.cell?, hblk, w1]
              have hrows : RowsRel w' Z e0 (xs ++ ys) ad.block ad.off := by
                refine RowsRel.append ?_ ?_
                · refine RowsRel.of_get fun m x hm => ?_
                  obtain ⟨q1, q2⟩ := g4.get hm
                  refine ⟨q1, RowRel.of_get fun jj d hd => ?_⟩
                  obtain ⟨u2, q3, q4⟩ := q2.get hd
                  have hjl : jj < e0 := by rw [← q1]; exact (List.getElem?_eq_some_iff.1 hd).1
                  have hml : m < xs.length := (List.getElem?_eq_some_iff.1 hm).1
                  have : m * e0 + e0 ≤ xs.length * e0 := by rw [← Nat.succ_mul]; exact Nat.mul_le_mul_right _ hml
                  exact ⟨u2, by rw [hcell, if_neg (by omega)]; exact q3, DRel.mono hZ _ _ q4⟩
                · refine rowsOfCells (w := w') (ws := ws') (el := el) (fz := (lo, hi)) (by rw [hblk]; exact p2.here) ys _ (by rw [hei]; exact hyl) fun j d hj => ?_
                  obtain ⟨u2, q1, q2⟩ := hd1.get hj
                  have hjl : j < ys.length * e0 := by
                    have := (List.getElem?_eq_some_iff.1 q1).1
                    simpa [harrl, ← hei] using this
                  refine ⟨u2, ?_, DRel.mono hZ _ _ q2⟩
                  have : ws'[ad.off + xs.length * e0 + j]? = ws'.toList[ad.off + xs.length * e0 + j]? := by simp
                  rw [this, hws', splice_get (by simp only [Array.length_toList, harrl, ← hei]; omega)]
                  simp only [Array.length_toList, harrl, ← hei]
                  rw [if_pos (by omega), Nat.add_sub_cancel_left]
                  exact q1
              have hlen2 : (xs ++ ys).length = xs.length + ys.length := by simp
              have hown : CRel K β Z s8 a w' (.own e0 (xs ++ ys)) (.slice (some ad) (xs.length + ys.length) cap) := ⟨ad, cap, by rw [hlen2], g2, by rw [hlen2]; exact hcap, hrows⟩
              refine ⟨.slice (some ad) (xs.length + ys.length) cap, w', β, ω', Z, ?_, n1, ⟨rfl, hown⟩, ?_⟩
              · rw [hexec, e1, run_append_in hun hun2 hd2 (hT.T _ _ hft) hlen hcap (harr w rfl) (w' := w') (by
                  intro ad1 h1
                  cases h1
                  rw [add_of g2, ← hei]
                  exact p1) (by intro h; cases h)]
                rfl
              · intro j' c q hc hq
                have hj : j' = 0 := by
                  simp only [SV.cells] at hc
                  cases j' with
                  | zero => rfl
                  | succ j => simp at hc
                subst hj
                simp only [SV.cells, List.getElem?_cons_zero, Option.some.injEq] at hc
                simp only [flat, List.getElem?_cons_zero, Option.some.injEq] at hq
                subst hc; subst hq
                refine ⟨hown, fun e' xs' ad2 len2 cap2 q1 q2 => ?_⟩
                cases q1
                cases q2
                exact ⟨by rw [hblk]; exact t8, ⟨ws', el, lo, hi, by rw [hblk]; exact p2.here, by rw [p2.len]; exact hfit, fun q hq => w3 q (by rw [← p2.len]; exact hq)⟩, by rw [hblk]; exact n2⟩
            · -- a new row
              obtain ⟨cap1, rest, q1, q2, q3⟩ := run_append_grow (P := K.P) (w := w) hun hun2 hd2 (hT.T _ _ hft) hz hb0 hb hlen (base := some ad) (sLen := xs.length) (sCap := cap) (by omega) hmax (old := (g4.us.choose).toArray) (fun W hW => by
                obtain ⟨_, a2, a3⟩ := g4.us.choose_spec
                generalize g4.us.choose = us at a2 a3
                simp only [Builtin.firstCells]
                rw [show (ad : Addr) = ⟨ad.block, ad.off, none⟩ by rw [← g2], ← hei, ← a2]
                by_cases h0 : us.length = 0
                · rw [h0]
                  have : us = [] := List.length_eq_zero_iff.1 h0
                  subst this
                  simp [loadCells, loadCellsFrom]
                · have hlast := a3 (us.length - 1) (by omega)
                  rw [List.getElem?_eq_getElem (by omega)] at hlast
                  obtain ⟨ws, el, fz, hw, hws⟩ := cells_of_cell? hlast
                  have hlt : ad.off + us.length ≤ ws.size := by
                    have := (Array.getElem?_eq_some_iff.1 hws).1
                    omega
                  rw [run_loadCells (w := W) (by rw [hW]; exact hw) hlt]
                  congr 1
                  apply Array.toList_inj.1
                  apply List.ext_getElem?
                  intro j
                  simp only [Array.toList_extract, List.extract_eq_take_drop, List.getElem?_take, List.getElem?_drop]
                  by_cases hj : j < us.length
                  · rw [if_pos (by omega), ← a3 j hj]
                    simp [World.cell?, hw]
                  · rw [if_neg (by omega), List.getElem?_eq_none (by simpa using hj)]) harr (ty := o.type)
              obtain ⟨a1, a2, _⟩ := g4.us.choose_spec
              generalize g4.us.choose = us at a1 a2 q3
              obtain ⟨r5, k5⟩ := t6.drew
              have hfl : (xs ++ ys).flatten = xs.flatten ++ ys.flatten := by simp
              have hall : DL w Z (us ++ arr.toList) (xs ++ ys).flatten := by rw [hfl]; exact All2.append a1 hd1
              refine newRow_yield r5 (len := xs.length + ys.length) (cap := cap1) (ws := us.toArray ++ arr ++ rest) (el := et) ?_ (by simp) (by omega) ?_ (by
                intro r hr
                rcases List.mem_append.1 hr with hr | hr
                · exact g4.len r hr
                · rw [hei]; exact hyl r hr) (fun j d hj => ?_)
              · rw [hexec, e1, q3]; rfl
              · have := q2 i.size hzs.symm
                simp only [Array.size_append, harrl, this, List.size_toArray, a2, hei]
                rw [← Nat.add_mul, ← Nat.add_mul]
                exact Nat.mul_le_mul_right _ (by omega)
              · obtain ⟨u, g1', g2'⟩ := hall.get hj
                refine ⟨u, ?_, DRel.mono (w := w) (w' := { w with drawn := w.drawn + 1 }) (Z := Z) (Z' := Z) (fun b hb => ⟨rfl, hb⟩) _ _ g2'⟩
                have hjl : j < us.length + arr.size := by simpa using (List.getElem?_eq_some_iff.1 g1').1
                rw [Array.getElem?_append_left (by simpa using hjl)]
                have : (us.toArray ++ arr)[j]? = (us ++ arr.toList)[j]? := by rw [← Array.getElem?_toList]; simp
                rw [this]
                exact g1'
          · simp [Prog.exec] at he6
        · simp [Prog.exec] at he5
      · simp [Prog.exec] at he
    · simp [Prog.exec] at he
  · simp [Prog.exec] at he
end
end Go.Vs
/- Conversions. -/
namespace Go.Vs
section
variable {K : Ctx} {β : Key → Option Nat} {ω : Nat → Option Holder} {Z : Nat → Prop} {s : St} {a : Act} {w : World} {cfg : Cfg} (hT : Tabs K.P cfg)
/-- a new row, in whatever world it came to lie -/
theorem newRow_yield' (h : Rel K β ω Z s a w) {e dst len cap lo hi : Nat} {ws : Array Value} {el : TypeId} {rows : List (List D)} {r : Result Next} {w' : World} (hr : r = .ok (.value (.slice (some ⟨w.heap.size, 0, none⟩) len cap)) w')
    (hheap : ∀ b, b < w.heap.size → w'.heap[b]? = w.heap[b]?) (hsize : w'.heap.size = w.heap.size + 1) (hos : w'.os = w.os) (htape : w'.tape = w.tape) (hout : w'.output = w.output)
    (hhere : w'.heap[w.heap.size]? = some (.cells ws el (lo, hi))) (hfz : ∀ o, o < ws.size → ¬ (lo ≤ o ∧ o < hi))
    (hl : rows.length = len) (hcap : len ≤ cap) (hws : cap * e ≤ ws.size) (hrow : ∀ r ∈ rows, r.length = e) (hd : ∀ (j : Nat) d, rows.flatten[j]? = some d → ∃ u, ws[j]? = some u ∧ DRel w Z d u) :
    Yield K s a dst r (.one (.own e rows)) := by
  obtain ⟨r1, k1⟩ := h.grow (w' := w') (ω' := fun b => if b = w.heap.size then some (.tmp dst, some 0) else ω b) hheap (by omega) hos htape hout (fun b hb => by simp [Nat.ne_of_lt hb]) (fun b g' hb hg => by
    rw [hsize]
    by_cases hbb : b = w.heap.size
    · omega
    · rw [if_neg hbb] at hg; have := (h.ωok b _ hg).2.1; omega)
  have f1 : Free K β s a w' w.heap.size := by
    intro q l e' xs ad' len' cap' hq hc1 hh1 hb
    rw [h.hdr_grow hheap] at hh1
    have := (h.ωok _ _ (h.own q l e' xs ad' len' cap' hq hc1 hh1).1).2.1
    omega
  have hrows : RowsRel w' Z e rows w.heap.size 0 := by
    refine rowsOfCells hhere rows 0 hrow fun j d hj => ?_
    obtain ⟨u, q1, q2⟩ := hd j d hj
    exact ⟨u, by simpa using q1, DRel.mono (fun b hb => ⟨k1.heap b (h.zin b hb), hb⟩) _ _ q2⟩
  refine ⟨_, _, β, _, Z, hr, r1, ⟨rfl, ⟨w.heap.size, 0, none⟩, cap, by rw [hl], rfl, by rw [hl]; exact hcap, hrows⟩, ?_⟩
  intro j c x hc hx
  have hj : j = 0 := by
    simp only [SV.cells] at hc
    cases j with
    | zero => rfl
    | succ j => simp at hc
  subst hj
  simp only [SV.cells, List.getElem?_cons_zero, Option.some.injEq] at hc
  simp only [flat, List.getElem?_cons_zero, Option.some.injEq] at hx
  subst hc; subst hx
  refine ⟨⟨⟨w.heap.size, 0, none⟩, cap, by rw [hl], rfl, by rw [hl]; exact hcap, hrows⟩, fun e' xs ad len' cap' q1 q2 => ?_⟩
  cases q1
  cases q2
  exact ⟨by simp, ⟨ws, el, lo, hi, hhere, by simpa using hws, hfz⟩, f1⟩
theorem run_toBytes {P : Program} (el : TypeId) (l : List UInt8) : ∃ (cap : Nat) (w' : World) (ws : Array Value), l.length ≤ cap ∧ (Conv.stringToBytes el ⟨l.toArray⟩).run P w = .ok (.slice (some ⟨w.heap.size, 0, none⟩) l.length cap) w' ∧
    (∀ b, b < w.heap.size → w'.heap[b]? = w.heap[b]?) ∧ w'.heap.size = w.heap.size + 1 ∧ w'.os = w.os ∧ w'.tape = w.tape ∧ w'.output = w.output ∧
    w'.heap[w.heap.size]? = some (.cells ws el (ws.size, ws.size + 1)) ∧ ws.size = cap ∧ ∀ (j : Nat), j < l.length → ws[j]? = (l[j]?).map fun b => .int .u8 b.toNat := by
  have hchoose : (choose (.appendCap l.length 0 el)).run P w = .ok ((Question.appendCap l.length 0 el).cut (w.tape w.drawn (.appendCap l.length 0 el))) { w with drawn := w.drawn + 1 } := by
    simp [choose, Sem.run, Question.forced]
  have hle : l.length ≤ (Question.appendCap l.length 0 el).cut (w.tape w.drawn (.appendCap l.length 0 el)) := by simp only [Question.cut]; omega
  generalize (Question.appendCap l.length 0 el).cut (w.tape w.drawn (.appendCap l.length 0 el)) = cap at hchoose hle
  let ws : Array Value := (l.toArray.map fun b => Value.int .u8 b.toNat) ++ Array.replicate (cap - l.length) (.int .u8 0)
  have hws : ws.size = cap := by simp [ws]; omega
  let w1 : World := ({ w with drawn := w.drawn + 1 } : World).alloc (.cells ws el)
  have h1 : w1.heap[w.heap.size]? = some (.cells ws el (0, 0)) := by show (w.heap.push _)[w.heap.size]? = _; simp
  refine ⟨cap, w1.freeze ⟨w.heap.size, ws.size, none⟩ 1, ws, hle, ?_, ?_, ?_, rfl, rfl, rfl, ?_, hws, ?_⟩
  · simp only [Conv.stringToBytes, Sem.run_bind, str_size, hchoose, Result.andThen_ok]
    have hsh : (shape w.heap.size).run P w1 = .ok (some (el, ws.size)) w1 := by
      simp [shape, Sem.run, World.shape?, h1]
    show ((newRow el ws).run P { w with drawn := w.drawn + 1 }).andThen _ = _
    simp only [run_newRow, Result.andThen_ok]
    show ((markStringish ⟨w.heap.size, 0, none⟩).run P w1).andThen _ = _
    simp only [markStringish, Sem.run_bind, hsh, Result.andThen_ok]
    rfl
  · intro b hb
    have hne : w.heap.size ≠ b := by omega
    show ((w1.freeze ⟨w.heap.size, ws.size, none⟩ 1).heap)[b]? = _
    simp only [World.freeze, Nat.one_ne_zero, if_false, Array.getElem?_modify, if_neg hne]
    show (w.heap.push _)[b]? = _
    rw [Array.getElem?_push, if_neg (by omega)]
  · show ((w1.freeze ⟨w.heap.size, ws.size, none⟩ 1).heap).size = _
    simp only [World.freeze, Nat.one_ne_zero, if_false, Array.size_modify]
    show (w.heap.push _).size = _
    simp
  · show ((w1.freeze ⟨w.heap.size, ws.size, none⟩ 1).heap)[w.heap.size]? = _
    simp only [World.freeze, Nat.one_ne_zero, if_false, Array.getElem?_modify, if_true, h1, Option.map_some]
    simp
  · intro j hj
    show ((l.toArray.map fun b => Value.int .u8 b.toNat) ++ Array.replicate (cap - l.length) (.int .u8 0))[j]? = _
    rw [Array.getElem?_append_left (by simpa using hj)]
    simp
theorem flat_single {α γ : Type} (f : α → γ) : ∀ l : List α, (l.map fun b => [f b]).flatten = l.map f
  | [] => rfl
  | b :: l => by simp only [List.map_cons, List.flatten_cons, flat_single f l]; rfl
theorem forIn_bytes {P : Program} : ∀ (us : List Value) (l : List UInt8) (acc : List UInt8), All2 (fun u (b : UInt8) => ∃ n : Int, u = .int .u8 n ∧ b = UInt8.ofNat n.toNat) us l →
    (forIn us (ByteArray.mk acc.toArray) fun c (__s : ByteArray) =>
            match c with
            | Value.int IntKind.u8 n => (pure (ForInStep.yield (__s.push (UInt8.ofNat n.toNat))) : Sem (ForInStep ByteArray))
            | x => do
              stuck "bytesToString: byte expected"
              pure (ForInStep.yield __s)).run P w = .ok (ByteArray.mk (acc ++ l).toArray) w
  | [], [], acc, _ => by simp
  | u :: us, b :: l, acc, h => by
    obtain ⟨⟨n, rfl, rfl⟩, h2⟩ := h
    rw [List.forIn_cons]
    simp only [Sem.run_bind, Sem.run_pure, Result.andThen_ok]
    have hp : (ByteArray.mk acc.toArray).push (UInt8.ofNat n.toNat) = ByteArray.mk (acc ++ [UInt8.ofNat n.toNat]).toArray := by
      apply ByteArray.ext
      simp [ByteArray.push]
    rw [hp, forIn_bytes us l _ h2]
    simp
theorem run_ofBytes {P : Program} {u : Value} {xs : List (List D)} {l : List UInt8} (hu : (u = .slice none 0 0 ∧ xs = []) ∨ ∃ ad cap, u = .slice (some ad) xs.length cap ∧ (cap = 0 ∨ ad.spot = none) ∧ xs.length ≤ cap ∧ RowsRel w Z 1 xs ad.block ad.off)
    (hl : xs.mapM (fun x => match x with | [.int .u8 n] => some (UInt8.ofNat n.toNat) | _ => none) = some l) : (Conv.bytesToString u).run P w = .ok (.string ⟨l.toArray⟩) w := by
  rcases hu with ⟨rfl, rfl⟩ | ⟨ad, cap, rfl, h2, h3, h4⟩
  · simp at hl
    subst hl
    rfl
  · have hx := adds_slice (K := { P := P, N := 0, base := 0, w0 := w, E0 := fun _ => False, Z0 := fun _ => False, argv := #[], β0 := fun _ => none }) (w := w) (Z := Z) (size := 1) (u := .slice (some ad) xs.length cap) (ys := xs) (.inr ⟨ad, cap, rfl, h2, h3, h4⟩)
    obtain ⟨_, _, arr, harr, hdl, _⟩ := hx
    have harr' := harr w rfl
    simp only [Builtin.firstCells, Nat.mul_one] at harr'
    have key : ∀ (xs : List (List D)) (us : List Value) (l : List UInt8), DL w Z us xs.flatten → xs.mapM (fun x => match x with | [.int .u8 n] => some (UInt8.ofNat n.toNat) | _ => none) = some l →
        All2 (fun u (b : UInt8) => ∃ n : Int, u = .int .u8 n ∧ b = UInt8.ofNat n.toNat) us l := by
      intro xs
      induction xs with
      | nil =>
        intro us l hd hm
        simp at hm
        subst hm
        cases us with
        | nil => trivial
        | cons _ _ => exact hd.elim
      | cons x xs ih =>
        intro us l hd hm
        rw [List.mapM_cons] at hm
        match x, hm with
        | [.int .u8 n], hm =>
          cases hm2 : xs.mapM (fun x => match x with | [.int .u8 n] => some (UInt8.ofNat n.toNat) | _ => none) with
          | none => simp [hm2] at hm
          | some l' =>
            simp [hm2] at hm
            subst hm
            cases us with
            | nil => exact hd.elim
            | cons u us => exact ⟨⟨n, hd.1, rfl⟩, ih us l' hd.2 hm2⟩
        | [], hm => simp at hm
        | .bool _ :: _, hm => simp at hm
        | .str _ :: _, hm => simp at hm
        | .nil :: _, hm => simp at hm
        | .sl _ _ :: _, hm => simp at hm
        | .nul _ :: _, hm => simp at hm
        | .int k n :: y :: r, hm => simp at hm
        | [.int .i8 n], hm => simp at hm
        | [.int .i16 n], hm => simp at hm
        | [.int .i32 n], hm => simp at hm
        | [.int .i64 n], hm => simp at hm
        | [.int .u16 n], hm => simp at hm
        | [.int .u32 n], hm => simp at hm
        | [.int .u64 n], hm => simp at hm
    have hf := forIn_bytes (P := P) (w := w) arr.toList l [] (key xs _ l hdl hl)
    simp only [Conv.bytesToString, Sem.run_bind, harr', Result.andThen_ok]
    rw [← Array.forIn_toList]
    have he : ByteArray.empty = ByteArray.mk ([] : List UInt8).toArray := rfl
    rw [he]
    exact (congrArg (fun r : Result ByteArray => r.andThen fun a w' => Sem.run P (pure (Value.string a)) w') hf).trans (by simp)
include hT in
theorem convert_yield (h : Rel K β ω Z s a w) {src dst' : TypeId} {x : Operand} {dst : Nat} {o : Oper} (ho : o.op = .convert src dst' x) {v : SV} {s' : St} (he : (aval cfg o.op dst).exec s = some (v, s')) :
    Yield K s' a dst ((execOp a.eval o).run K.P w) v := by
  rw [ho] at he
  simp only [aval] at he
  obtain ⟨v1, s1, h1, he2⟩ := exec_bind' he
  obtain ⟨hs1, hv, hno, hnu⟩ := ev_spec h h1
  rw [hs1] at he2
  have hexec : (execOp a.eval o).run K.P w = ((convert src dst' (a.eval x)).run K.P w).andThen fun u w' => .ok (.value u) w' := by
    simp only [execOp, ho, Sem.run_bind, Sem.run_pure]
  unfold convertP at he2
  split at he2
  · rename_i i1 _ _ k _ _ n hi1 hi2
    obtain ⟨d1, _, _, hun1⟩ := run_underlying' (w := w) (hT.T _ _ hi1)
    obtain ⟨d2, _, hk2, hun2⟩ := run_underlying' (w := w) (hT.T _ _ hi2)
    have hd2 := tk_int hk2
    subst hd2
    obtain ⟨hx, hs2⟩ := exec_ret he2
    rw [hx, hs2]
    have e1 := hv.2
    simp only [CRel, DRel] at e1
    refine Yield.d (d := .int k (k.wrap n)) h (u := .int k (k.wrap n)) ?_ rfl
    rw [hexec, e1]
    simp only [convert, Sem.run_bind, hun1, hun2, Result.andThen_ok, Conv.intToInt, Sem.run_pure]
  · rename_i l hi1 hi2
    obtain ⟨d1, _, _, hun1⟩ := run_underlying' (w := w) (hT.T _ _ hi1)
    obtain ⟨d2, _, hk2, hun2⟩ := run_underlying' (w := w) (hT.T _ _ hi2)
    have hd2 := tk_str hk2
    subst hd2
    obtain ⟨hx, hs2⟩ := exec_ret he2
    rw [hx, hs2]
    have e1 := hv.2
    simp only [CRel, DRel] at e1
    refine Yield.d (d := .str l) h (u := .string ⟨l.toArray⟩) ?_ rfl
    rw [hexec, e1]
    simp only [convert, Sem.run_bind, hun1, hun2, Result.andThen_ok, Sem.run_pure]
  · rename_i et z l hi1 hi2
    obtain ⟨d1, _, _, hun1⟩ := run_underlying' (w := w) (hT.T _ _ hi1)
    obtain ⟨d2, _, hk2, hun2⟩ := run_underlying' (w := w) (hT.T _ _ hi2)
    have hd2 := tk_slice hk2
    subst hd2
    split at he2
    · rename_i hi3
      obtain ⟨d3, _, hk3, hun3⟩ := run_underlying' (w := w) (hT.T _ _ hi3)
      have hd3 := tk_int hk3
      subst hd3
      obtain ⟨hx, hs2⟩ := exec_ret he2
      rw [hx, hs2]
      have e1 := hv.2
      simp only [CRel, DRel] at e1
      obtain ⟨cap, w', ws, q1, q2, q3, q4, q5, q6, q7, q8, q9, q10⟩ := run_toBytes (P := K.P) (w := w) et l
      refine newRow_yield' h (w' := w') (len := l.length) (cap := cap) (lo := ws.size) (hi := ws.size + 1) (ws := ws) (el := et) ?_ q3 q4 q5 q6 q7 q8 (by omega) (by simp) q1 (by omega) (by simp) (fun j d hj => ?_)
      · rw [hexec, e1]
        simp only [convert, Sem.run_bind, hun1, hun2, hun3, Result.andThen_ok, q2]
      · rw [flat_single, List.getElem?_map] at hj
        cases hlj : l[j]? with
        | none => rw [hlj] at hj; cases hj
        | some b =>
          rw [hlj] at hj
          simp only [Option.map_some, Option.some.injEq] at hj
          subst hj
          refine ⟨.int .u8 b.toNat, ?_, rfl⟩
          rw [q10 j (List.getElem?_eq_some_iff.1 hlj).1, hlj]
          rfl
    · simp [Prog.exec] at he2
  · rename_i et z c hi1 hi2
    obtain ⟨d1, _, hk1, hun1⟩ := run_underlying' (w := w) (hT.T _ _ hi1)
    have hd1 := tk_slice hk1
    subst hd1
    obtain ⟨d2, _, hk2, hun2⟩ := run_underlying' (w := w) (hT.T _ _ hi2)
    have hd2 := tk_str hk2
    subst hd2
    split at he2
    · rename_i hi3
      obtain ⟨d3, _, hk3, hun3⟩ := run_underlying' (w := w) (hT.T _ _ hi3)
      have hd3 := tk_int hk3
      subst hd3
      obtain ⟨xs, s2, h2, he3⟩ := exec_bind' he2
      obtain ⟨hs2, g⟩ := elems_spec h hv.2 h2
      rw [hs2] at he3
      split at he3
      · rename_i l hl
        obtain ⟨hx, hs3⟩ := exec_ret he3
        rw [hx, hs3]
        have hrun := run_ofBytes (P := K.P) g hl
        refine Yield.d (d := .str l) h (u := .string ⟨l.toArray⟩) ?_ rfl
        rw [hexec]
        rcases g with ⟨e1, _⟩ | ⟨ad, cap, e1, _⟩
        · rw [e1] at hrun ⊢
          simp only [convert, Sem.run_bind, hun1, hun2, hun3, Result.andThen_ok, hrun]
        · rw [e1] at hrun ⊢
          simp only [convert, Sem.run_bind, hun1, hun2, hun3, Result.andThen_ok, hrun]
      · simp [Prog.exec] at he3
    · simp [Prog.exec] at he2
  · simp [Prog.exec] at he2
end
end Go.Vs
/- Calls: what a contract says; a call in the caller's state. -/
namespace Go.Vs
/-! ## Contracts -/
def entrySt (args : List SV) (boxes : List (List C)) : St
  | .tmp _ => {}
  | .arg i => { v := args.getD i .undef }
  | .box (.inb i) => { v := match boxes[i]? with | some cs => .agg cs | none => .undef }
  | .box _ => {}
def exitSt (args : List SV) (r : CallRes) : St
  | .tmp 0 => { v := r.v }
  | .tmp _ => {}
  | .arg i => { v := (frzArgs r.frz args).getD i .undef }
  | .box (.inb i) => { v := match r.boxes[i]? with | some cs => .agg cs | none => .undef }
  | .box _ => {}
def ctxOf (P : Program) (N : Nat) (w : World) (vals : Array Value) (β : Key → Option Nat) (ω : Nat → Option Holder) (Z : Nat → Prop) : Ctx :=
  { P, N, base := w.heap.size, w0 := w, E0 := fun b => ω b ≠ none, Z0 := Z, argv := vals, β0 := β }
def FnOK (P : Program) (f : FuncId) (F : AFun) : Prop :=
  ∀ (args : List SV) (boxes : List (List C)) (r : CallRes), F args boxes = some r → ∀ (w : World) (vals : Array Value) (β : Key → Option Nat) (ω : Nat → Option Holder) (Z : Nat → Prop),
    vals.size = args.length → Rel (ctxOf P 0 w vals β ω Z) β ω Z (entrySt args boxes) { tmps := #[], defers := [] } w →
    Calls P f vals w fun e w' => ∃ v β' ω' Z', e = .returned v ∧ Rel (ctxOf P 1 w vals β ω Z) β' ω' Z' (exitSt args r) { tmps := #[v], defers := [] } w'
section
variable {K : Ctx} {β : Key → Option Nat} {ω : Nat → Option Holder} {Z : Nat → Prop} {s : St} {a : Act} {w : World} {cfg : Cfg}
/-! ### preparing the arguments -/
theorem prepC_spec (h : Rel K β ω Z s a w) {c c' : C} {u : Value} {s' : St} (hcu : CRel K β Z s a w c u) (hno : NoOwn c) (he : (prepC cfg c).exec s = some (c', s')) :
    ∃ ω' Z', Rel K β ω' Z' s' a w ∧ Calm K β a ω Z s w ω' Z' s' w ∧ CRel K β Z' s' a w c' u ∧ NoOwn c' := by
  unfold prepC at he
  split at he
  · split at he
    · obtain ⟨rfl, rfl⟩ := exec_ret he; exact ⟨ω, Z, h, Calm.refl, hcu, hno⟩
    · obtain ⟨x, s1, h1, he2⟩ := exec_bind' he
      obtain ⟨hx, hs⟩ := exec_ret he2
      rw [hx, hs]
      obtain ⟨ω', Z', r1, k1, d1⟩ := toD_spec h hcu h1
      exact ⟨ω', Z', r1, k1, d1, by simp [NoOwn]⟩
  · obtain ⟨rfl, rfl⟩ := exec_ret he; exact ⟨ω, Z, h, Calm.refl, hcu, hno⟩
theorem prepCs_spec : ∀ (cs : List C) (us : List Value) (ω : Nat → Option Holder) (Z : Nat → Prop) (s s' : St) (cs' : List C), Rel K β ω Z s a w → All2 (fun u c => CRel K β Z s a w c u) us cs → (∀ c ∈ cs, NoOwn c) →
    (prepCs cfg cs).exec s = some (cs', s') → ∃ ω' Z', Rel K β ω' Z' s' a w ∧ Calm K β a ω Z s w ω' Z' s' w ∧ All2 (fun u c => CRel K β Z' s' a w c u) us cs' ∧ (∀ c ∈ cs', NoOwn c) := by
  intro cs
  induction cs with
  | nil =>
    intro us ω Z s s' cs' h hall hno he
    obtain ⟨hx, hs⟩ := exec_ret he
    subst hx; subst hs
    cases us with
    | nil => exact ⟨ω, Z, h, Calm.refl, trivial, by simp⟩
    | cons u us => exact hall.elim
  | cons c cs ih =>
    intro us ω Z s s' cs' h hall hno he
    cases us with
    | nil => exact hall.elim
    | cons u us =>
      simp only [prepCs] at he
      obtain ⟨c1, s1, h1, he1⟩ := exec_bind' he
      obtain ⟨cs1, s2, h2, he2⟩ := exec_bind' he1
      obtain ⟨hx, hs⟩ := exec_ret he2
      subst hx; subst hs
      obtain ⟨ω1, Z1, r1, k1, p1, q1⟩ := prepC_spec h hall.1 (hno c (List.mem_cons_self ..)) h1
      have hno' : ∀ x ∈ cs, NoOwn x := fun x hx => hno x (List.mem_cons_of_mem _ hx)
      obtain ⟨ω2, Z2, r2, k2, p2, q2⟩ := ih us ω1 Z1 s1 _ cs1 r1 (hall.2.mono_mem fun u c hc hr => k1.crel h.zin (fun e xs _ _ _ hx _ => absurd hx (hno' c hc e xs)) hr) hno' h2
      refine ⟨ω2, Z2, r2, k1.trans k2, ⟨k2.crel r1.zin (fun e xs _ _ _ hx _ => absurd hx (q1 e xs)) p1, p2⟩, fun x hx => ?_⟩
      rcases List.mem_cons.1 hx with rfl | hx
      · exact q1
      · exact q2 x hx
def VRel (K : Ctx) (β : Key → Option Nat) (Z : Nat → Prop) (s : St) (a : Act) (w : World) (u : Value) (v : SV) : Prop := SVRel (CRel K β Z s a w) u v ∧ (∀ c ∈ v.cells, NoOwn c) ∧ v ≠ .undef
theorem VRel.lift {ω' : Nat → Option Holder} {Z' : Nat → Prop} {s' : St} {w' : World} (hr : Rel K β ω Z s a w) (k : Calm K β a ω Z s w ω' Z' s' w') {u : Value} {v : SV} (h : VRel K β Z s a w u v) : VRel K β Z' s' a w' u v :=
  ⟨SVRel.mono (fun c _ hc hcu => k.crel hr.zin (fun e xs _ _ _ hx _ => absurd hx (h.2.1 c hc e xs)) hcu) h.1, h.2⟩
theorem prepSV_spec (h : Rel K β ω Z s a w) {v v' : SV} {u : Value} {s' : St} (hv : VRel K β Z s a w u v) (he : (prepSV cfg v).exec s = some (v', s')) :
    ∃ ω' Z', Rel K β ω' Z' s' a w ∧ Calm K β a ω Z s w ω' Z' s' w ∧ VRel K β Z' s' a w u v' := by
  cases v with
  | one c =>
    simp only [prepSV] at he
    obtain ⟨c1, s1, h1, he2⟩ := exec_bind' he
    obtain ⟨hx, hs⟩ := exec_ret he2
    subst hx; subst hs
    obtain ⟨ω1, Z1, r1, k1, p1, q1⟩ := prepC_spec h hv.1.2 (hv.2.1 c (by simp [SV.cells])) h1
    exact ⟨ω1, Z1, r1, k1, ⟨hv.1.1, p1⟩, by simpa [SV.cells] using q1, by simp⟩
  | agg cs =>
    simp only [prepSV] at he
    obtain ⟨c1, s1, h1, he2⟩ := exec_bind' he
    obtain ⟨hx, hs⟩ := exec_ret he2
    subst hx; subst hs
    obtain ⟨ws, hu, hall⟩ := hv.1
    obtain ⟨ω1, Z1, r1, k1, p1, q1⟩ := prepCs_spec cs ws.toList ω Z s _ _ h hall (fun c hc => hv.2.1 c hc) h1
    exact ⟨ω1, Z1, r1, k1, ⟨ws, hu, p1⟩, q1, by simp⟩
  | tup x => simp [prepSV, Prog.exec] at he
  | undef => simp [prepSV, Prog.exec] at he
theorem prepSVs_spec : ∀ (vs : List SV) (us : List Value) (ω : Nat → Option Holder) (Z : Nat → Prop) (s s' : St) (vs' : List SV), Rel K β ω Z s a w → All2 (VRel K β Z s a w) us vs →
    (prepSVs cfg vs).exec s = some (vs', s') → ∃ ω' Z', Rel K β ω' Z' s' a w ∧ Calm K β a ω Z s w ω' Z' s' w ∧ All2 (VRel K β Z' s' a w) us vs' := by
  intro vs
  induction vs with
  | nil =>
    intro us ω Z s s' vs' h hall he
    obtain ⟨hx, hs⟩ := exec_ret he
    subst hx; subst hs
    cases us with
    | nil => exact ⟨ω, Z, h, Calm.refl, trivial⟩
    | cons u us => exact hall.elim
  | cons v vs ih =>
    intro us ω Z s s' vs' h hall he
    cases us with
    | nil => exact hall.elim
    | cons u us =>
      simp only [prepSVs] at he
      obtain ⟨v1, s1, h1, he1⟩ := exec_bind' he
      obtain ⟨vs1, s2, h2, he2⟩ := exec_bind' he1
      obtain ⟨hx, hs⟩ := exec_ret he2
      subst hx; subst hs
      obtain ⟨ω1, Z1, r1, k1, p1⟩ := prepSV_spec h hall.1 h1
      obtain ⟨ω2, Z2, r2, k2, p2⟩ := ih us ω1 Z1 s1 _ vs1 r1 (All2.mono (fun _ _ hr => VRel.lift h k1 hr) hall.2) h2
      exact ⟨ω2, Z2, r2, k1.trans k2, VRel.lift r1 k2 p1, p2⟩
/-! ### the callee's view -/
def idxβ (ks : List Key) (β : Key → Option Nat) : Key → Option Nat
  | .inb i => if i < ks.length then β (ks.getD i default) else none
  | _ => none
def idxω (ks : List Key) (ω : Nat → Option Holder) (b : Nat) : Option Holder :=
  match ω b with
  | some (.box k, j) => if k ∈ ks then some (.box (.inb (idx k ks)), j) else none
  | _ => none
theorem idx_lt : ∀ {ks : List Key} {k : Key}, k ∈ ks → idx k ks < ks.length ∧ ks[idx k ks]? = some k
  | k' :: ks, k, h => by
    simp only [idx]
    split
    · rename_i e; subst e; simp
    · rename_i e
      have : k ∈ ks := by
        rcases List.mem_cons.1 h with h | h
        · exact absurd h e
        · exact h
      obtain ⟨h1, h2⟩ := idx_lt this
      exact ⟨by simp; omega, by simpa using h2⟩
theorem idxβ_of {ks : List Key} {k : Key} (h : k ∈ ks) (β : Key → Option Nat) : idxβ ks β (.inb (idx k ks)) = β k := by
  obtain ⟨h1, h2⟩ := idx_lt h
  simp only [idxβ, h1, if_true, List.getD_eq_getElem?_getD, h2, Option.getD_some]
theorem idx_get : ∀ {ks : List Key} (_ : ks.Nodup) {i : Nat} {k : Key}, ks[i]? = some k → idx k ks = i
  | [], _, _, _, h => by simp at h
  | k' :: ks, hn, 0, k, h => by
    simp only [List.getElem?_cons_zero, Option.some.injEq] at h
    subst h
    simp [idx]
  | k' :: ks, hn, i + 1, k, h => by
    simp only [List.getElem?_cons_succ] at h
    have hne : k ≠ k' := by
      rintro rfl
      exact (List.nodup_cons.1 hn).1 (List.mem_of_getElem? h)
    simp only [idx, if_neg hne, idx_get (List.nodup_cons.1 hn).2 h]
theorem dedup_nodup : ∀ (l : List Key), (dedup l).Nodup
  | [] => List.nodup_nil
  | k :: r => by
    simp only [dedup]
    exact List.nodup_cons.2 ⟨by simp, (dedup_nodup r).filter _⟩
theorem mem_dedup : ∀ {l : List Key} {k : Key}, k ∈ l → k ∈ dedup l
  | k' :: r, k, h => by
    simp only [dedup, List.mem_cons, List.mem_filter, decide_eq_true_eq]
    by_cases e : k = k'
    · exact .inl e
    · exact .inr ⟨mem_dedup (by simpa [e] using h), e⟩
theorem keysOf_mem : ∀ {cs : List C} {c : C} {k : Key}, c ∈ cs → k ∈ keysOf [c] → k ∈ keysOf cs
  | c' :: cs, c, k, hc, hk => by
    rcases List.mem_cons.1 hc with rfl | hc
    · cases c <;> simp_all [keysOf]
    · have := keysOf_mem hc hk
      cases c' <;> simp_all [keysOf]
/-- what canon gives, in whatever state of the callee -/
theorem canon_spec (h : Rel K β ω Z s a w) {ks : List Key} {c c' : C} {u : Value} {s' : St} (hcu : CRel K β Z s a w c u) (hno : NoOwn c) (hk : ∀ k ∈ keysOf [c], k ∈ ks) (he : (canon ks c).exec s = some (c', s')) :
    s' = s ∧ (∀ (K₀ : Ctx) (s₀ : St) (a₀ : Act), CRel K₀ (idxβ ks β) Z s₀ a₀ w c' u) ∧ (∀ (e : Nat) (xs : List (List D)) (ad : Addr) (len cap : Nat), c' = .own e xs → u = .slice (some ad) len cap → idxω ks ω ad.block = none ∧ ad.block < w.heap.size) := by
  unfold canon at he
  split at he
  · obtain ⟨hx, hs⟩ := exec_ret he
    subst hx
    exact ⟨hs, fun _ _ _ => hcu, by simp⟩
  · rename_i r j hv cv e k xs
    simp only [Prog.exec] at he
    obtain ⟨_, s1, h1, he2⟩ := exec_bind' he
    obtain ⟨⟨hhv, hcv⟩, hs1⟩ := exec_need h1
    rw [hs1] at he2
    have hal' : (s r).at j ≠ .dead := by
      intro hd
      rw [hd] at he2
      simp [Prog.exec] at he2
    obtain ⟨ad, cap, g1, g2, g3, g4⟩ := bor_rows' h hcu hhv hcv hal'
    obtain ⟨ad', cap', f1, _, _, _, ad0, len0, cap0, ys, f2, f3, f4, f4b, f5, f6, f7⟩ := bor_rows h hcu hhv hcv hal'
    rw [g1] at f1
    cases f1
    rcases f6 with f6 | f6
    · rw [f6] at he2
      simp only at he2
      obtain ⟨_, s2, h2, he3⟩ := exec_bind' he2
      obtain ⟨hnb, hs2⟩ := exec_need h2
      rw [hs2] at he3
      obtain ⟨hx, hs⟩ := exec_ret he3
      subst hx
      refine ⟨hs, fun _ _ _ => ⟨ad, cap, g1, g2, g3, g4⟩, fun e' xs' ad1 len1 cap1 q1 q2 => ?_⟩
      rw [g1] at q2
      cases q2
      rw [f3]
      by_cases hra : r.isArg = true
      · cases r with
        | arg i =>
          obtain ⟨p1, p2⟩ := h.argown i j e ys ad0 len0 cap0 (at_cells f6 (by simp)) f2
          refine ⟨?_, Nat.lt_of_lt_of_le p1 h.base⟩
          have : ω ad0.block = none := by
            cases hω : ω ad0.block with
            | none => rfl
            | some g => exact absurd ((h.ωok _ _ hω).2.2 p1) p2
          simp [idxω, this]
        | tmp t => simp [Res.isArg] at hra
        | box k => simp [Res.isArg] at hra
      · obtain ⟨p1, p2⟩ := h.own r j e ys ad0 len0 cap0 (by simpa using hra) (at_cells f6 (by simp)) f2
        refine ⟨?_, (h.ωok _ _ p1).2.1⟩
        unfold idxω
        rw [p1]
        cases r with
        | box k0 =>
          simp only
          rw [if_neg]
          intro hm
          exact hnb k0 hm rfl
        | tmp t => rfl
        | arg i => rfl
    · rw [f6] at he2
      simp only at he2
      obtain ⟨hx, hs⟩ := exec_ret he2
      subst hx
      refine ⟨hs, fun _ _ _ => ⟨ad, cap, g1, (h.frozen f6 f2).imp (by omega) fun z => ⟨g2, by rw [f3]; exact z⟩, g3, g4⟩, by simp⟩
  · rename_i k off
    obtain ⟨hx, hs⟩ := exec_ret he
    subst hx
    obtain ⟨b, g1, g2⟩ := hcu
    exact ⟨hs, fun _ _ _ => ⟨b, by rw [idxβ_of (hk k (by simp [keysOf]))]; exact g1, g2⟩, by simp⟩
  · rename_i f caps
    obtain ⟨hx, hs⟩ := exec_ret he
    subst hx
    obtain ⟨vs, g1, g2⟩ := hcu
    refine ⟨hs, fun _ _ _ => ⟨vs, g1, ?_⟩, by simp⟩
    have key : ∀ (us : List Value) (caps : List (Key × Nat)), (∀ p ∈ caps, p.1 ∈ ks) → All2 (fun u (p : Key × Nat) => ∃ b, β p.1 = some b ∧ u = .pointer (some ⟨b, p.2, none⟩)) us caps →
        All2 (fun u (p : Key × Nat) => ∃ b, idxβ ks β p.1 = some b ∧ u = .pointer (some ⟨b, p.2, none⟩)) us (caps.map fun p => (.inb (idx p.1 ks), p.2)) := by
      intro us
      induction us with
      | nil => intro caps _ h; cases caps with | nil => trivial | cons _ _ => exact h.elim
      | cons u us ih =>
        intro caps hm h
        cases caps with
        | nil => exact h.elim
        | cons p caps =>
          obtain ⟨⟨b, q1, q2⟩, q3⟩ := h
          exact ⟨⟨b, by rw [idxβ_of (hm p (List.mem_cons_self ..))]; exact q1, q2⟩, ih caps (fun x hx => hm x (List.mem_cons_of_mem _ hx)) q3⟩
    exact key _ _ (fun p hp => hk p.1 (by simp [keysOf]; exact ⟨p.2, hp⟩)) g2
  · simp [Prog.exec] at he
/-- what a canonical value is, for the callee -/
def CanV (ks : List Key) (β : Key → Option Nat) (ω : Nat → Option Holder) (Z : Nat → Prop) (w : World) (u : Value) (v : SV) : Prop :=
  (∀ (K₀ : Ctx) (s₀ : St) (a₀ : Act), SVRel (CRel K₀ (idxβ ks β) Z s₀ a₀ w) u v) ∧ (∀ (j e : Nat) (xs : List (List D)) (ad : Addr) (len cap : Nat), v.cells[j]? = some (.own e xs) → (flat u)[j]? = some (.slice (some ad) len cap) → idxω ks ω ad.block = none ∧ ad.block < w.heap.size) ∧ v ≠ .undef
theorem canons_spec : ∀ (cs : List C) (us : List Value) (s' : St) (cs' : List C) {ks : List Key}, Rel K β ω Z s a w → All2 (fun u c => CRel K β Z s a w c u) us cs → (∀ c ∈ cs, NoOwn c) → (∀ k ∈ keysOf cs, k ∈ ks) →
    (canons ks cs).exec s = some (cs', s') → s' = s ∧ (∀ (K₀ : Ctx) (s₀ : St) (a₀ : Act), All2 (fun u c => CRel K₀ (idxβ ks β) Z s₀ a₀ w c u) us cs') ∧
      (∀ (j e : Nat) (xs : List (List D)) (ad : Addr) (len cap : Nat), cs'[j]? = some (.own e xs) → us[j]? = some (.slice (some ad) len cap) → idxω ks ω ad.block = none ∧ ad.block < w.heap.size) := by
  intro cs
  induction cs with
  | nil =>
    intro us s' cs' ks h hall hno hk he
    obtain ⟨hx, hs⟩ := exec_ret he
    subst hx
    cases us with
    | nil => exact ⟨hs, fun _ _ _ => trivial, by simp⟩
    | cons u us => exact hall.elim
  | cons c cs ih =>
    intro us s' cs' ks h hall hno hk he
    cases us with
    | nil => exact hall.elim
    | cons u us =>
      simp only [canons] at he
      obtain ⟨c1, s1, h1, he1⟩ := exec_bind' he
      obtain ⟨hs1, p1, p2⟩ := canon_spec h hall.1 (hno c (List.mem_cons_self ..)) (fun k hk' => hk k (keysOf_mem (List.mem_cons_self ..) hk')) h1
      rw [hs1] at he1
      obtain ⟨cs1, s2, h2, he2⟩ := exec_bind' he1
      obtain ⟨hx, hs⟩ := exec_ret he2
      obtain ⟨hs2, q1, q2⟩ := ih us s2 cs1 h hall.2 (fun x hx => hno x (List.mem_cons_of_mem _ hx)) (fun k hk' => hk k (by cases c <;> simp_all [keysOf])) h2
      subst hx
      refine ⟨by rw [hs, hs2], fun K₀ s₀ a₀ => ⟨p1 K₀ s₀ a₀, q1 K₀ s₀ a₀⟩, fun j e xs ad len cap hc hu => ?_⟩
      cases j with
      | zero =>
        simp only [List.getElem?_cons_zero, Option.some.injEq] at hc hu
        exact p2 e xs ad len cap hc hu
      | succ j => exact q2 j e xs ad len cap (by simpa using hc) (by simpa using hu)
theorem keysOf_append (l m : List C) : keysOf (l ++ m) = keysOf l ++ keysOf m := by
  induction l with
  | nil => rfl
  | cons c l ih => cases c <;> simp [keysOf, ih]
theorem canonSVs_spec : ∀ (vs : List SV) (us : List Value) (s' : St) (vs' : List SV) {ks : List Key}, Rel K β ω Z s a w → All2 (VRel K β Z s a w) us vs → (∀ k ∈ keysOf (vs.flatMap SV.cells), k ∈ ks) →
    (canonSVs ks vs).exec s = some (vs', s') → s' = s ∧ All2 (CanV ks β ω Z w) us vs' := by
  intro vs
  induction vs with
  | nil =>
    intro us s' vs' ks h hall hk he
    obtain ⟨hx, hs⟩ := exec_ret he
    subst hx
    cases us with
    | nil => exact ⟨hs, trivial⟩
    | cons u us => exact hall.elim
  | cons v vs ih =>
    intro us s' vs' ks h hall hk he
    cases us with
    | nil => exact hall.elim
    | cons u us =>
      simp only [canonSVs] at he
      obtain ⟨v1, s1, h1, he1⟩ := exec_bind' he
      have hkv : ∀ k ∈ keysOf v.cells, k ∈ ks := fun k hk' => hk k (by simp only [List.flatMap_cons, keysOf_append]; exact List.mem_append_left _ hk')
      have hone : s1 = s ∧ CanV ks β ω Z w u v1 := by
        cases v with
        | one c =>
          simp only [canonSV] at h1
          obtain ⟨c1, s3, h3, he3⟩ := exec_bind' h1
          obtain ⟨hx, hs⟩ := exec_ret he3
          subst hx
          obtain ⟨hs1, p1, p2⟩ := canon_spec h hall.1.1.2 (hall.1.2.1 c (by simp [SV.cells])) (fun k hk' => hkv k (by simpa [SV.cells] using hk')) h3
          refine ⟨by rw [hs, hs1], fun K₀ s₀ a₀ => ⟨hall.1.1.1, p1 K₀ s₀ a₀⟩, fun j e xs ad len cap hc hu => ?_, by simp⟩
          rw [flat_of_isOne hall.1.1.1] at hu
          cases j with
          | zero =>
            simp only [SV.cells, List.getElem?_cons_zero, Option.some.injEq] at hc hu
            exact p2 e xs ad len cap hc hu
          | succ j => simp [SV.cells] at hc
        | agg cs =>
          simp only [canonSV] at h1
          obtain ⟨c1, s3, h3, he3⟩ := exec_bind' h1
          obtain ⟨hx, hs⟩ := exec_ret he3
          subst hx
          obtain ⟨ws, hu, hcs⟩ := hall.1.1
          obtain ⟨hs1, p1, p2⟩ := canons_spec cs ws.toList s3 c1 h hcs (fun c hc => hall.1.2.1 c hc) hkv h3
          refine ⟨by rw [hs, hs1], fun K₀ s₀ a₀ => ⟨ws, hu, p1 K₀ s₀ a₀⟩, fun j e xs ad len cap hc hq => ?_, by simp⟩
          rw [hu] at hq
          exact p2 j e xs ad len cap hc hq
        | tup x => simp [canonSV, Prog.exec] at h1
        | undef => simp [canonSV, Prog.exec] at h1
      rw [hone.1] at he1
      obtain ⟨vs1, s2, h2, he2⟩ := exec_bind' he1
      obtain ⟨hx, hs⟩ := exec_ret he2
      subst hx
      obtain ⟨hs2, q⟩ := ih us s2 vs1 h hall.2 (fun k hk' => hk k (by simp only [List.flatMap_cons, keysOf_append]; exact List.mem_append_right _ hk')) h2
      exact ⟨by rw [hs, hs2], hone.2, q⟩
theorem getBoxes_spec {kk : List Key} : ∀ (ks : List Key) (s' : St) (bs : List (List C)), (getBoxes kk ks).exec s = some (bs, s') → s' = s ∧ bs.length = ks.length ∧ ∀ (i : Nat) (k : Key), ks[i]? = some k → ∃ cs, bs[i]? = some (cs.map (tc kk)) ∧ (s (.box k)).v = .agg cs ∧ cs.all (tok kk) = true := by
  intro ks
  induction ks with
  | nil =>
    intro s' bs he
    obtain ⟨hx, hs⟩ := exec_ret he
    subst hx
    exact ⟨hs, rfl, by simp⟩
  | cons k ks ih =>
    intro s' bs he
    simp only [getBoxes, Prog.exec] at he
    split at he
    · rename_i cs hcs
      obtain ⟨_, s1, h1, he2⟩ := exec_bind' he
      obtain ⟨hp, hs1⟩ := exec_need h1
      rw [hs1] at he2
      obtain ⟨r, s2, h2, he3⟩ := exec_bind' he2
      obtain ⟨hx, hs⟩ := exec_ret he3
      subst hx
      obtain ⟨q1, q2, q3⟩ := ih s2 r h2
      refine ⟨by rw [hs, q1], by simp [q2], fun i k' hi => ?_⟩
      cases i with
      | zero => simp only [List.getElem?_cons_zero, Option.some.injEq] at hi; subst hi; exact ⟨cs, rfl, hcs, hp⟩
      | succ i => obtain ⟨cs', g1, g2⟩ := q3 i k' (by simpa using hi); exact ⟨cs', by simpa using g1, g2⟩
    · simp [Prog.exec] at he
theorem boxKeys_spec : ∀ (ks : List Key) (s' : St) (l : List Key), (boxKeys ks).exec s = some (l, s') → s' = s := by
  intro ks
  induction ks with
  | nil => intro s' l he; exact (exec_ret he).2
  | cons k ks ih =>
    intro s' l he
    simp only [boxKeys, Prog.exec] at he
    split at he
    · obtain ⟨r, s2, h2, he3⟩ := exec_bind' he
      rw [(exec_ret he3).2, ih s2 r h2]
    · simp [Prog.exec] at he
theorem tok_mem {ks : List Key} {cs : List C} (h : cs.all (tok ks) = true) {c : C} (hc : c ∈ cs) : tok ks c = true := List.all_eq_true.1 h c hc
theorem crel_tc {K' : Ctx} {ks : List Key} {s' : St} {a' : Act} {c : C} {u : Value} (hp : tok ks c = true) (h : CRel K β Z s a w c u) : CRel K' (idxβ ks β) Z s' a' w (tc ks c) u := by
  cases c with
  | d x => exact h
  | own e xs => exact h
  | ptr k off =>
    obtain ⟨b, g1, g2⟩ := h
    exact ⟨b, by rw [idxβ_of (by simpa [tok] using hp)]; exact g1, g2⟩
  | _ => cases hp
theorem tc_own {ks : List Key} {c : C} {e : Nat} {xs : List (List D)} (h : tc ks c = .own e xs) : c = .own e xs := by
  cases c <;> first | exact h | cases h
theorem All2.map_right {α β γ : Type} {R : α → β → Prop} {S : α → γ → Prop} {f : β → γ} : ∀ {us : List α} {cs : List β}, All2 R us cs → (∀ u c, c ∈ cs → R u c → S u (f c)) → All2 S us (cs.map f)
  | [], [], _, _ => trivial
  | _ :: _, _ :: _, h, g => ⟨g _ _ (List.mem_cons_self ..) h.1, All2.map_right h.2 fun u c hc => g u c (List.mem_cons_of_mem _ hc)⟩
theorem bok_tc {ks : List Key} {c : C} (h : tok ks c = true) : bok ks.length (tc ks c) = true := by
  cases c with
  | d x => rfl
  | own e xs => rfl
  | ptr k off => exact decide_eq_true (idx_lt (by simpa [tok] using h)).1
  | _ => cases h
theorem crel_bok {K' : Ctx} {n : Nat} {s' : St} {a' : Act} {c : C} {u : Value} (hp : bok n c = true) (h : CRel K β Z s a w c u) : CRel K' β Z s' a' w c u := by
  cases c with
  | d x => exact h
  | own e xs => exact h
  | ptr k off => exact h
  | _ => cases hp
theorem bok_mem {n : Nat} {cs : List C} (h : cs.all (bok n) = true) {c : C} (hc : c ∈ cs) : bok n c = true := List.all_eq_true.1 h c hc
theorem crel_plain {K' : Ctx} {β' : Key → Option Nat} {s' : St} {a' : Act} {c : C} {u : Value} (hp : plain c = true) (h : CRel K β Z s a w c u) : CRel K' β' Z s' a' w c u := by
  cases c <;> simp [plain] at hp <;> exact h
theorem plain_mem {cs : List C} (h : cs.all plain = true) {c : C} (hc : c ∈ cs) : plain c = true := List.all_eq_true.1 h c hc
theorem idxβ_some {ks : List Key} {β : Key → Option Nat} {k : Key} {b : Nat} (h : idxβ ks β k = some b) : ∃ i k', k = .inb i ∧ ks[i]? = some k' ∧ β k' = some b := by
  unfold idxβ at h
  split at h
  · rename_i i
    split at h
    · rename_i hi
      refine ⟨i, ks.getD i default, rfl, ?_, h⟩
      rw [List.getD_eq_getElem?_getD, List.getElem?_eq_getElem hi]
      rfl
    · cases h
  · cases h
/-- the callee's relation at its start -/
theorem entry_rel (h : Rel K β ω Z s a w) {ks : List Key} (hnd : ks.Nodup) {us : List Value} {cargs : List SV} {bs : List (List C)} (hcan : All2 (CanV ks β ω Z w) us cargs) (hbl : bs.length = ks.length)
    (hb : ∀ (i : Nat) (k : Key), ks[i]? = some k → ∃ cs, bs[i]? = some (cs.map (tc ks)) ∧ (s (.box k)).v = .agg cs ∧ cs.all (tok ks) = true) :
    Rel (ctxOf K.P 0 w us.toArray (idxβ ks β) (idxω ks ω) Z) (idxβ ks β) (idxω ks ω) Z (entrySt cargs bs) { tmps := #[], defers := [] } w := by
  have hget : ∀ i, us.toArray.getD i undef = us.getD i undef := fun i => by simp [Array.getD_eq_getD_getElem?, List.getD_eq_getElem?_getD]
  have hargc : ∀ i (v : SV), cargs.getD i .undef = v → v ≠ .undef → CanV ks β ω Z w (us.getD i undef) v := by
    intro i v hv hne
    rw [List.getD_eq_getElem?_getD] at hv
    cases hc : cargs[i]? with
    | none => rw [hc] at hv; exact absurd hv.symm hne
    | some v' =>
      rw [hc] at hv
      simp only [Option.getD_some] at hv
      subst hv
      obtain ⟨u, g1, g2⟩ := hcan.get hc
      rw [List.getD_eq_getElem?_getD, g1]
      exact g2
  have hbox : ∀ (k : Key) (cs' : List C), (entrySt cargs bs (.box k)).v = .agg cs' → ∃ i k' cs, k = .inb i ∧ ks[i]? = some k' ∧ (s (.box k')).v = .agg cs ∧ cs' = cs.map (tc ks) ∧ cs.all (tok ks) = true := by
    intro k cs hk
    cases k with
    | inb i =>
      simp only [entrySt] at hk
      cases hbi : bs[i]? with
      | none => rw [hbi] at hk; cases hk
      | some cs' =>
        rw [hbi] at hk
        cases hk
        have hi : i < ks.length := by rw [← hbl]; exact (List.getElem?_eq_some_iff.1 hbi).1
        obtain ⟨cs2, g1, g2, g3⟩ := hb i _ (List.getElem?_eq_getElem hi)
        rw [hbi] at g1
        cases g1
        exact ⟨i, _, cs2, rfl, List.getElem?_eq_getElem hi, g2, rfl, g3⟩
    | loc t => simp [entrySt] at hk
    | esc t i => simp [entrySt] at hk
  have hω : ∀ (i : Nat) (k' : Key) (j : Option Nat) (b : Nat), ks[i]? = some k' → ω b = some (.box k', j) → idxω ks ω b = some (.box (.inb i), j) := by
    intro i k' j b hi hb
    have hm : k' ∈ ks := List.mem_of_getElem? hi
    simp only [idxω, hb, hm, if_true, idx_get hnd hi]
  refine ⟨rfl, rfl, rfl, rfl, rfl, Nat.le_refl _, fun _ _ _ => rfl, h.zin, fun _ h => h, fun b hb => .inl hb, ?_, ?_, ?_, ?_, ?_, ?_, fun _ _ h => h⟩
  · intro t; exact trivial
  · intro i
    show SVRel _ (us.toArray.getD i undef) (cargs.getD i .undef)
    rw [hget]
    by_cases hu : cargs.getD i .undef = .undef
    · rw [hu]; trivial
    · exact (hargc i _ rfl hu).1 _ _ _
  · intro k
    cases hv : (entrySt cargs bs (.box k)).v with
    | agg cs =>
      obtain ⟨i, k', cs0, rfl, hi, g1, rfl, g2⟩ := hbox k cs hv
      obtain ⟨b, ws, el, lo, hi', f1, f2, f3, f4, f5⟩ := BoxRel.cell h g1
      refine ⟨b, ws, el, lo, hi', ?_, hω i k' none b hi f2, f3, f4, f5.map_right fun u c hc hr => crel_tc (tok_mem g2 hc) hr⟩
      have := idxβ_of (List.mem_of_getElem? hi) β
      rw [idx_get hnd hi] at this
      rw [this]
      exact f1
    | undef =>
      show idxβ ks β k = none
      cases hβ : idxβ ks β k with
      | none => rfl
      | some b =>
        obtain ⟨i, k', rfl, hi, g⟩ := idxβ_some hβ
        obtain ⟨cs, g1, g2, g3⟩ := hb i k' hi
        simp only [entrySt, g1] at hv
        cases hv
    | one c => cases k <;> simp only [entrySt] at hv <;> (try (split at hv)) <;> cases hv
    | tup c => cases k <;> simp only [entrySt] at hv <;> (try (split at hv)) <;> cases hv
  · intro r j e xs ad len cap hr hc hh
    cases r with
    | tmp t => simp [entrySt, SV.cells] at hc
    | arg i => simp [Res.isArg] at hr
    | box k =>
      cases hv : (entrySt cargs bs (.box k)).v with
      | agg cs =>
        obtain ⟨i, k', cs0, rfl, hi, g1, rfl, g2⟩ := hbox k cs hv
        rw [hv] at hc
        have hc : (cs0.map (tc ks))[j]? = some (.own e xs) := hc
        have hc0 : cs0[j]? = some (.own e xs) := by
          rw [List.getElem?_map] at hc
          cases hcj : cs0[j]? with
          | none => rw [hcj] at hc; cases hc
          | some c0 => rw [hcj] at hc; simp only [Option.map_some, Option.some.injEq] at hc; rw [tc_own hc]
        have hβ : idxβ ks β (.inb i) = β k' := by
          have := idxβ_of (List.mem_of_getElem? hi) β
          rw [idx_get hnd hi] at this
          exact this
        have hh' : hdr K β a w (.box k') j = some (.slice (some ad) len cap) := by
          simp only [hdr, hβ] at hh
          exact hh
        obtain ⟨p1, p2⟩ := h.own (.box k') j e xs ad len cap rfl (by rw [g1]; exact hc0) hh'
        exact ⟨hω i k' (some j) _ hi p1, p2⟩
      | undef => rw [hv] at hc; simp [SV.cells] at hc
      | one c => cases k <;> simp only [entrySt] at hv <;> (try (split at hv)) <;> cases hv
      | tup c => cases k <;> simp only [entrySt] at hv <;> (try (split at hv)) <;> cases hv
  · intro i j e xs ad len cap hc hh
    have hc' : (cargs.getD i .undef).cells[j]? = some (.own e xs) := hc
    have hne : cargs.getD i .undef ≠ .undef := by intro e; rw [e] at hc'; simp [SV.cells] at hc'
    have hh' : (flat (us.getD i undef))[j]? = some (.slice (some ad) len cap) := by rw [← hget]; exact hh
    obtain ⟨p1, p2⟩ := (hargc i _ rfl hne).2.1 j e xs ad len cap hc' hh'
    exact ⟨p2, fun hE => hE p1⟩
  · intro b g hb
    have hb' : idxω ks ω b ≠ none := by rw [hb]; simp
    have : ∃ g', ω b = some g' := by
      unfold idxω at hb
      cases hω : ω b with
      | none => rw [hω] at hb; cases hb
      | some g' => exact ⟨g', rfl⟩
    obtain ⟨g', hg'⟩ := this
    obtain ⟨q1, q2, _⟩ := h.ωok b g' hg'
    exact ⟨q1, q2, fun _ => hb'⟩
end
end Go.Vs
/- A call's end in the caller's state. -/
namespace Go.Vs
section
variable {K : Ctx} {β : Key → Option Nat} {ω : Nat → Option Holder} {Z : Nat → Prop} {s : St} {a : Act} {w : World} {cfg : Cfg}
theorem bc_own {ks : List Key} {c : C} {e : Nat} {xs : List (List D)} (h : bc ks c = .own e xs) : c = .own e xs := by
  cases c with
  | ptr k off => cases k <;> cases h
  | _ => first | exact h | cases h
theorem bc_plain1 {ks : List Key} {c : C} (h : plain c = true) : bc ks c = c := by cases c <;> first | rfl | cases h
theorem bc_plain {ks : List Key} {cs : List C} (h : cs.all plain = true) : cs.map (bc ks) = cs := by
  induction cs with
  | nil => rfl
  | cons c cs ih =>
    rw [List.all_cons, Bool.and_eq_true] at h
    rw [List.map_cons, bc_plain1 h.1, ih h.2]
theorem plain_bok {n : Nat} {cs : List C} (h : cs.all plain = true) : cs.all (bok n) = true := by
  rw [List.all_eq_true] at h ⊢
  intro c hc
  have := h c hc
  cases c <;> first | rfl | cases this
theorem samePtr_iff {v : SV} {l : List C} (h : samePtr v l = true) : ∃ k off, v = .agg [.ptr k off] ∧ l = [.ptr k off] := by
  unfold samePtr at h
  split at h
  · simp only [Bool.and_eq_true, decide_eq_true_eq, Nat.beq_eq] at h
    obtain ⟨rfl, rfl⟩ := h
    exact ⟨_, _, rfl, rfl⟩
  · cases h
theorem putBoxes_spec {kk : List Key} : ∀ (ks : List Key) (bs : List (List C)) (s s' : St) {y : Unit}, ks.Nodup → (putBoxes kk ks bs).exec s = some (y, s') → bs.length = ks.length ∧ (∀ (i : Nat) k cs, ks[i]? = some k → bs[i]? = some cs → (s' (.box k)).v = .agg (cs.map (bc kk)) ∧ ((s' (.box k)).hv = (s (.box k)).hv + 1 ∨ (s' (.box k) = s (.box k) ∧ ∃ q off, cs.map (bc kk) = [.ptr q off])) ∧ (s' (.box k)).cv = (s (.box k)).cv ∧ cs.all (bok kk.length) = true) ∧
    (∀ r, (∀ k ∈ ks, r ≠ .box k) → s' r = s r) := by
  intro ks
  induction ks with
  | nil =>
    intro bs s s' y _ he
    cases bs with
    | nil => obtain ⟨_, hs⟩ := exec_ret he; exact ⟨rfl, by simp, fun r _ => by rw [hs]⟩
    | cons b bs => simp [putBoxes, Prog.exec] at he
  | cons k ks ih =>
    intro bs s s' y hnd he
    cases bs with
    | nil => simp [putBoxes, Prog.exec] at he
    | cons b bs =>
      simp only [putBoxes, Prog.exec] at he
      obtain ⟨_, s1, h1, he2⟩ := exec_bind' he
      obtain ⟨hp, hs1⟩ := exec_need h1
      rw [hs1] at he2
      obtain ⟨hk, hnd'⟩ := List.nodup_cons.1 hnd
      cases hsp : samePtr (s (.box k)).v (b.map (bc kk)) with
      | true =>
        rw [hsp] at he2
        obtain ⟨kq, off, hv1, hv2⟩ := samePtr_iff hsp
        obtain ⟨q1, q2, q3⟩ := ih bs s s' hnd' he2
        refine ⟨by simp [q1], fun i k' cs hi hb => ?_, fun r hr => q3 r (fun k2 hk2 => hr k2 (List.mem_cons_of_mem _ hk2))⟩
        cases i with
        | zero =>
          simp only [List.getElem?_cons_zero, Option.some.injEq] at hi hb
          subst hi; subst hb
          rw [q3 (.box k) (fun k2 hk2 e => hk (by cases e; exact hk2))]
          exact ⟨by rw [hv1, hv2], .inr ⟨rfl, kq, off, hv2⟩, rfl, hp⟩
        | succ i =>
          simp only [List.getElem?_cons_succ] at hi hb
          exact q2 i k' cs hi hb
      | false =>
      rw [hsp] at he2
      obtain ⟨_, s2, h2, he3⟩ := exec_bind' he2
      simp only [putR, Prog.exec, Option.some.injEq, Prod.mk.injEq] at h2
      obtain ⟨_, hs2⟩ := h2
      obtain ⟨q1, q2, q3⟩ := ih bs s2 s' hnd' he3
      have hs2k : ∀ r, r ≠ .box k → s2 r = s r := fun r hr => by rw [← hs2, set_other _ _ hr]
      refine ⟨by simp [q1], fun i k' cs hi hb => ?_, fun r hr => ?_⟩
      · cases i with
        | zero =>
          simp only [List.getElem?_cons_zero, Option.some.injEq] at hi hb
          subst hi; subst hb
          rw [q3 (.box k) (fun k2 hk2 e => hk (by cases e; exact hk2)), ← hs2, set_same]
          exact ⟨rfl, .inl rfl, rfl, hp⟩
        | succ i =>
          simp only [List.getElem?_cons_succ] at hi hb
          have := q2 i k' cs hi hb
          have hne : Res.box k' ≠ .box k := fun e => hk (by cases e; exact List.mem_of_getElem? hi)
          rw [hs2k _ hne] at this
          exact this
      · rw [q3 r (fun k2 hk2 => hr k2 (List.mem_cons_of_mem _ hk2)), hs2k r (hr k (List.mem_cons_self ..))]
theorem escape_spec (t : Nat) : ∀ (bs : List (List C)) (i0 : Nat) (s s' : St) {y : Unit}, (escape t i0 bs).exec s = some (y, s') →
    (∀ (i : Nat) cs, bs[i]? = some cs → (s (.box (.esc t (i0 + i)))).v = .undef ∧ (s' (.box (.esc t (i0 + i)))).v = .agg cs ∧ (s' (.box (.esc t (i0 + i)))).hv = (s (.box (.esc t (i0 + i)))).hv + 1 ∧ (s' (.box (.esc t (i0 + i)))).cv = (s (.box (.esc t (i0 + i)))).cv ∧ cs.all plain = true) ∧
    (∀ r, (∀ i, i < bs.length → r ≠ .box (.esc t (i0 + i))) → s' r = s r) := by
  intro bs
  induction bs with
  | nil => intro i0 s s' y he; obtain ⟨_, hs⟩ := exec_ret he; exact ⟨by simp, fun r _ => by rw [hs]⟩
  | cons b bs ih =>
    intro i0 s s' y he
    simp only [escape, Prog.exec] at he
    split at he
    · rename_i hu
      obtain ⟨_, s1, h1, he2⟩ := exec_bind' he
      obtain ⟨hp, hs1⟩ := exec_need h1
      rw [hs1] at he2
      obtain ⟨_, s2, h2, he3⟩ := exec_bind' he2
      simp only [putR, Prog.exec, Option.some.injEq, Prod.mk.injEq] at h2
      obtain ⟨_, hs2⟩ := h2
      obtain ⟨q2, q3⟩ := ih (i0 + 1) s2 s' he3
      have hs2k : ∀ r, r ≠ .box (.esc t i0) → s2 r = s r := fun r hr => by rw [← hs2, set_other _ _ hr]
      refine ⟨fun i cs hb => ?_, fun r hr => ?_⟩
      · cases i with
        | zero =>
          simp only [List.getElem?_cons_zero, Option.some.injEq] at hb
          subst hb
          simp only [Nat.add_zero]
          rw [q3 (.box (.esc t i0)) (fun i _ e => by simp at e; omega), ← hs2, set_same]
          exact ⟨hu, rfl, rfl, rfl, hp⟩
        | succ i =>
          simp only [List.getElem?_cons_succ] at hb
          have := q2 i cs hb
          rw [show i0 + 1 + i = i0 + (i + 1) by omega, hs2k _ (by simp)] at this
          exact this
      · rw [q3 r (fun i hi => by have := hr (i + 1) (by simpa using hi); rw [show i0 + 1 + i = i0 + (i + 1) by omega]; exact this), hs2k r (by have := hr 0 (by simp); simpa using this)]
    · simp [Prog.exec] at he
theorem frzArgs_same {args : List SV} : ∀ {l : List (Nat × Nat)}, frzOk args l = true → frzArgs l args = args
  | [], _ => rfl
  | (i, j) :: r, h => by
    simp only [frzOk, List.all_cons, Bool.and_eq_true] at h
    obtain ⟨h1, h2⟩ := h
    simp only [frzArgs]
    have hset : args.set i (frz1 (args.getD i .undef) j) = args := by
      have : frz1 (args.getD i .undef) j = args.getD i .undef := by
        unfold frz1
        split at h1
        · rename_i x hx; rw [hx]
        · cases h1
      rw [this]
      apply List.ext_getElem?
      intro m
      rw [List.getElem?_set]
      split
      · rename_i hm
        subst hm
        split
        · rename_i hl
          rw [List.getD_eq_getElem?_getD, List.getElem?_eq_getElem hl]
          rfl
        · rename_i hl
          rw [List.getElem?_eq_none (by omega)]
      · rfl
    rw [hset]
    exact frzArgs_same h2
def tr (ks : List Key) (t : Nat) : Option Holder → Option Holder
  | some (.tmp _, j) => some (.tmp t, j)
  | some (.box (.inb i), j) => some (.box (if i < ks.length then ks.getD i default else .esc t (i - ks.length)), j)
  | _ => none
open Classical in
/-- the call's end -/
theorem exit_rel (h : Rel K β ω Z s a w) {ks : List Key} (hnd : ks.Nodup) {us : List Value} {cargs : List SV} (hcan : All2 (CanV ks β ω Z w) us cargs) {r : CallRes} {v : Value} {β' : Key → Option Nat} {ω' : Nat → Option Holder} {Z' : Nat → Prop} {w' : World}
    (hR : Rel (ctxOf K.P 1 w us.toArray (idxβ ks β) (idxω ks ω) Z) β' ω' Z' (exitSt cargs r) { tmps := #[v], defers := [] } w')
    (hagg : ∀ (i : Nat) (k : Key), ks[i]? = some k → ∃ cs, (s (.box k)).v = .agg cs) (hfrz : frzOk cargs r.frz = true) (hlen : ks.length ≤ r.boxes.length)
    {t : Nat} {s1 s2 : St} {y y' : Unit} (hp : (putBoxes ks ks (r.boxes.take ks.length)).exec s = some (y, s1)) (hesc : (escape t 0 (r.boxes.drop ks.length)).exec s1 = some (y', s2)) {v' : SV} {s3 : St} (hback : (backSV ks t r.v).exec s2 = some (v', s3)) :
    ∃ β'' ω'', Rel K β'' ω'' Z' s3 a w' ∧ Pend K β'' ω'' Z' s3 a w' (.tmp t) v v' := by
  obtain ⟨hpl, hp1, hp2⟩ := putBoxes_spec ks _ s s1 hnd hp
  obtain ⟨he1, he2⟩ := escape_spec t _ 0 s1 s2 hesc
  simp only [Nat.zero_add] at he1 he2
  -- the boxes that are set
  have hKs : ∀ (i : Nat) k, ks[i]? = some k → ∃ cs, r.boxes[i]? = some cs ∧ (s1 (.box k)).v = .agg (cs.map (bc ks)) ∧ ((s1 (.box k)).hv = (s (.box k)).hv + 1 ∨ (s1 (.box k) = s (.box k) ∧ ∃ q off, cs.map (bc ks) = [.ptr q off])) ∧ (s1 (.box k)).cv = (s (.box k)).cv ∧ cs.all (bok ks.length) = true := by
    intro i k hi
    have hil : i < ks.length := (List.getElem?_eq_some_iff.1 hi).1
    have hb : (r.boxes.take ks.length)[i]? = r.boxes[i]? := by rw [List.getElem?_take, if_pos hil]
    have hbs : r.boxes[i]? = some r.boxes[i] := List.getElem?_eq_getElem (by omega)
    exact ⟨_, hbs, hp1 i k _ hi (by rw [hb]; exact hbs)⟩
  have hnotEsc : ∀ k ∈ ks, ∀ i, i < (r.boxes.drop ks.length).length → Res.box k ≠ .box (.esc t i) := by
    intro k hk i hi e
    cases e
    obtain ⟨j, hj⟩ := List.getElem?_of_mem hk
    obtain ⟨cs, _, g, _⟩ := hKs j _ hj
    have := (he1 i _ (List.getElem?_eq_getElem hi)).1
    rw [g] at this
    cases this
  have hS2k : ∀ (i : Nat) k, ks[i]? = some k → ∃ cs, r.boxes[i]? = some cs ∧ (s2 (.box k)).v = .agg (cs.map (bc ks)) ∧ ((s2 (.box k)).hv = (s (.box k)).hv + 1 ∨ (s2 (.box k) = s (.box k) ∧ ∃ q off, cs.map (bc ks) = [.ptr q off])) ∧ (s2 (.box k)).cv = (s (.box k)).cv ∧ cs.all (bok ks.length) = true := by
    intro i k hi
    obtain ⟨cs, g⟩ := hKs i k hi
    rw [← he2 (.box k) (hnotEsc k (List.mem_of_getElem? hi))] at g
    exact ⟨cs, g⟩
  have hS2e : ∀ i, i < (r.boxes.drop ks.length).length → ∃ cs, r.boxes[ks.length + i]? = some cs ∧ (s (.box (.esc t i))).v = .undef ∧ (s2 (.box (.esc t i))).v = .agg cs ∧ (s2 (.box (.esc t i))).hv = (s (.box (.esc t i))).hv + 1 ∧ (s2 (.box (.esc t i))).cv = (s (.box (.esc t i))).cv ∧ cs.all plain = true := by
    intro i hi
    obtain ⟨g1, g2, g3, g4, g5⟩ := he1 i _ (List.getElem?_eq_getElem hi)
    have hs1 : s1 (.box (.esc t i)) = s (.box (.esc t i)) := hp2 _ fun k hk => (hnotEsc k hk i hi).symm
    rw [hs1] at g1 g3 g4
    refine ⟨_, ?_, g1, g2, g3, g4, g5⟩
    rw [← List.getElem?_drop, List.getElem?_eq_getElem hi]
  have hS2o : ∀ q, (∀ k ∈ ks, q ≠ .box k) → (∀ i, i < (r.boxes.drop ks.length).length → q ≠ .box (.esc t i)) → s2 q = s q := fun q h1 h2 => by rw [he2 q h2, hp2 q h1]
  -- backSV keeps the state
  have hback3 : s3 = s2 := by
    have hb1 : ∀ (c c' : C) (x x' : St), (back ks t c).exec x = some (c', x') → x' = x := by
      intro c c' x x' he
      unfold back at he
      split at he
      · exact (exec_ret he).2
      · exact (exec_ret he).2
      · exact (exec_ret he).2
      · obtain ⟨_, x1, h1, he2⟩ := exec_bind' he
        rw [(exec_ret he2).2, (exec_need h1).2]
      · simp [Prog.exec] at he
    have hb2 : ∀ (cs cs' : List C) (x x' : St), (backs ks t cs).exec x = some (cs', x') → x' = x := by
      intro cs
      induction cs with
      | nil => intro cs' x x' he; exact (exec_ret he).2
      | cons c cs ih =>
        intro cs' x x' he
        simp only [backs] at he
        obtain ⟨c1, x1, h1, he1⟩ := exec_bind' he
        obtain ⟨cs1, x2, h2, he2⟩ := exec_bind' he1
        rw [(exec_ret he2).2, ih _ _ _ h2, hb1 _ _ _ _ h1]
    have hb3 : ∀ (vs vs' : List (Bool × List C)) (x x' : St), (backTup ks t vs).exec x = some (vs', x') → x' = x := by
      intro vs
      induction vs with
      | nil => intro cs' x x' he; exact (exec_ret he).2
      | cons c cs ih =>
        intro cs' x x' he
        obtain ⟨b, c⟩ := c
        simp only [backTup] at he
        obtain ⟨c1, x1, h1, he1⟩ := exec_bind' he
        obtain ⟨cs1, x2, h2, he2⟩ := exec_bind' he1
        rw [(exec_ret he2).2, ih _ _ _ h2, hb2 _ _ _ _ h1]
    cases hrv : r.v with
    | one c => rw [hrv] at hback; simp only [backSV] at hback; obtain ⟨c1, x1, h1, he⟩ := exec_bind' hback; rw [(exec_ret he).2, hb1 _ _ _ _ h1]
    | agg c => rw [hrv] at hback; simp only [backSV] at hback; obtain ⟨c1, x1, h1, he⟩ := exec_bind' hback; rw [(exec_ret he).2, hb2 _ _ _ _ h1]
    | tup c => rw [hrv] at hback; simp only [backSV] at hback; obtain ⟨c1, x1, h1, he⟩ := exec_bind' hback; rw [(exec_ret he).2, hb3 _ _ _ _ h1]
    | undef => rw [hrv] at hback; simp [backSV, Prog.exec] at hback
  rw [hback3] at hback ⊢
  -- the callee's part of memory
  let dom : Nat → Prop := fun b => w.heap.size ≤ b ∨ idxω ks ω b ≠ none
  have hdomHeap : ∀ b, ¬ dom b → w'.heap[b]? = w.heap[b]? := fun b hb => hR.frame b (by simp only [dom, not_or] at hb; show b < w.heap.size; omega) (by simp only [dom, not_or] at hb; exact hb.2)
  have hωdom : ∀ b g, ω' b = some g → dom b := by
    intro b g hb
    by_cases hlt : b < w.heap.size
    · exact .inr ((hR.ωok b g hb).2.2 hlt)
    · exact .inl (by omega)
  have hfz : ∀ b, Z' b → Z b ∨ dom b := by
    intro b hb
    rcases hR.znew b hb with g | g | g | ⟨i, j, e, ys, ad, len, cap, g1, g2, g3⟩
    · exact .inl g
    · exact .inr (.inl g)
    · exact .inr (.inr g)
    · left
      have g1' : (cargs.getD i .undef).cells[j]? = some (.d (.sl e ys)) := by
        have : (exitSt cargs r (.arg i)).v = (frzArgs r.frz cargs).getD i .undef := rfl
        rw [this, frzArgs_same hfrz] at g1
        exact g1
      rw [List.getD_eq_getElem?_getD] at g1'
      cases hci : cargs[i]? with
      | none => rw [hci] at g1'; simp [SV.cells] at g1'
      | some cv =>
        rw [hci] at g1'
        obtain ⟨u, q1, q2⟩ := hcan.get hci
        obtain ⟨x, q3, q4⟩ := (q2.1 K s a).cell g1'
        have hu : (ctxOf K.P 1 w us.toArray (idxβ ks β) (idxω ks ω) Z).argv.getD i undef = u := by
          show us.toArray.getD i undef = u
          simp [Array.getD_eq_getD_getElem?, q1]
        rw [hu, q3] at g2
        cases g2
        obtain ⟨ad2, cap2, p1, p2, _⟩ := q4
        cases p1
        rw [← g3.1]
        exact (p2.resolve_left g3.2).2
  have hnd0 : ∀ b g, ω b = some g → (∀ k j, g = (.box k, j) → k ∉ ks) → ¬ dom b := by
    intro b g hb hg
    have hlt := (h.ωok b g hb).2.1
    simp only [dom, not_or]
    refine ⟨by omega, ?_⟩
    simp only [ne_eq, Decidable.not_not]
    unfold idxω
    rw [hb]
    obtain ⟨q, j⟩ := g
    cases q with
    | box k => simp only; rw [if_neg (hg k j rfl)]
    | tmp t => rfl
    | arg i => rfl
  have hndZ : ∀ b, Z b → ¬ dom b := by
    intro b hb
    have hlt := h.zin b hb
    simp only [dom, not_or]
    refine ⟨by omega, ?_⟩
    have : ω b = none := by
      cases hω : ω b with
      | none => rfl
      | some g => exact absurd hb (h.ωok b g hω).1
    simp [idxω, this]
  have hndA : ∀ b, b < K.base → ¬ K.E0 b → ¬ dom b := by
    intro b hb hE
    simp only [dom, not_or]
    refine ⟨by have := h.base; omega, ?_⟩
    have : ω b = none := by
      cases hω : ω b with
      | none => rfl
      | some g => exact absurd ((h.ωok b g hω).2.2 hb) hE
    simp [idxω, this]
  -- where the boxes lie
  let β'' : Key → Option Nat := fun k => match k with
    | .esc t' i => if t' = t ∧ i < (r.boxes.drop ks.length).length then β' (.inb (ks.length + i)) else β k
    | k => β k
  have hβesc : ∀ i, i < (r.boxes.drop ks.length).length → β'' (.esc t i) = β' (.inb (ks.length + i)) := fun i hi => by simp only [β'', hi, and_self, if_true]
  have hβo : ∀ k, (∀ i, i < (r.boxes.drop ks.length).length → k ≠ .esc t i) → β'' k = β k := by
    intro k hk
    cases k with
    | inb i => rfl
    | loc t => rfl
    | esc t' i =>
      simp only [β'']
      rw [if_neg]
      rintro ⟨rfl, hi⟩
      exact hk i hi rfl
  have hβmono : ∀ k b, β k = some b → β'' k = some b := by
    intro k b hb
    rw [hβo k]
    · exact hb
    · rintro i hi rfl
      obtain ⟨cs, _, g, _⟩ := hS2e i hi
      have := h.boxes (.esc t i)
      rw [g] at this
      simp only [BoxRel] at this
      rw [this] at hb
      cases hb
  have hβks : ∀ (i : Nat) k, ks[i]? = some k → ∃ b, β k = some b ∧ β' (.inb i) = some b ∧ β'' k = some b := by
    intro i k hi
    obtain ⟨cs, hcs⟩ := hagg i k hi
    obtain ⟨b, ws, el, lo, hi', g1, _⟩ := BoxRel.cell h hcs
    refine ⟨b, g1, hR.βold (.inb i) b ?_, hβmono k b g1⟩
    show idxβ ks β (.inb i) = some b
    have := idxβ_of (List.mem_of_getElem? hi) β
    rw [idx_get hnd hi] at this
    rw [this]
    exact g1
  let ω'' : Nat → Option Holder := fun b => if dom b then tr ks t (ω' b) else ω b
  have hω1 : ∀ b, dom b → ω'' b = tr ks t (ω' b) := fun b hb => by simp only [ω'']; rw [if_pos hb]
  have hω2 : ∀ b, ¬ dom b → ω'' b = ω b := fun b hb => by simp only [ω'']; rw [if_neg hb]
  have hevo : ∀ q, Evo (s q) (s2 q) := by
    intro q
    by_cases h1 : ∃ k ∈ ks, q = .box k
    · obtain ⟨k, hk, rfl⟩ := h1
      obtain ⟨i, hi⟩ := List.getElem?_of_mem hk
      obtain ⟨cs, _, _, g1, g2, _⟩ := hS2k i k hi
      rcases g1 with g1 | g1
      · exact Evo.bump g1 g2
      · rw [g1.1]; exact Evo.refl _
    · by_cases h2 : ∃ i, i < (r.boxes.drop ks.length).length ∧ q = .box (.esc t i)
      · obtain ⟨i, hi, rfl⟩ := h2
        obtain ⟨cs, _, _, _, g1, g2, _⟩ := hS2e i hi
        exact Evo.bump g1 g2
      · rw [hS2o q (fun k hk e => h1 ⟨k, hk, e⟩) (fun i hi e => h2 ⟨i, hi, e⟩)]
        exact Evo.refl _
  have hsame : ∀ q, (s2 q).hv = (s q).hv → ((∀ k ∈ ks, q ≠ .box k) ∨ ∃ (i : Nat) (k : Key) (p : Key) (off : Nat) (cs : List C), ks[i]? = some k ∧ q = .box k ∧ s2 q = s q ∧ (s q).v = .agg [.ptr p off] ∧ r.boxes[i]? = some cs ∧ cs.map (bc ks) = [.ptr p off] ∧ cs.all (bok ks.length) = true) ∧ (∀ i, i < (r.boxes.drop ks.length).length → q ≠ .box (.esc t i)) := by
    intro q hq
    constructor
    · by_cases h1 : ∃ k ∈ ks, q = .box k
      · obtain ⟨k, hk, rfl⟩ := h1
        obtain ⟨i, hi⟩ := List.getElem?_of_mem hk
        obtain ⟨cs, g0, gv, g1, _, gb⟩ := hS2k i k hi
        rcases g1 with g1 | ⟨g1, p, off, g2⟩
        · omega
        · exact .inr ⟨i, k, p, off, cs, hi, rfl, g1, by rw [← g1, gv, g2], g0, g2, gb⟩
      · exact .inl fun k hk e => h1 ⟨k, hk, e⟩
    · rintro i hi rfl
      obtain ⟨cs, _, _, _, g1, _⟩ := hS2e i hi
      omega
  have hhdr : ∀ q j, (∀ k ∈ ks, q ≠ .box k) → (∀ i, i < (r.boxes.drop ks.length).length → q ≠ .box (.esc t i)) → hdr K β'' a w' q j = hdr K β a w q j := by
    intro q j h1 h2
    cases q with
    | tmp t' => rfl
    | arg i => rfl
    | box k =>
      simp only [hdr]
      rw [hβo k (fun i hi e => h2 i hi (by rw [e]))]
      cases hb : β k with
      | none => rfl
      | some b =>
        simp only [Option.bind_some]
        refine cell_of_heap (hdomHeap b ?_) _ _
        have hbx := h.boxes k
        cases hv : (s (.box k)).v with
        | agg cs =>
          obtain ⟨b2, ws, el, lo, hi, g1, g2, _⟩ := BoxRel.cell h hv
          rw [hb] at g1
          cases g1
          exact hnd0 b _ g2 fun k' j' e hk' => h1 k' hk' (by cases e; rfl)
        | undef => rw [hv] at hbx; simp only [BoxRel] at hbx; rw [hbx] at hb; cases hb
        | one c => rw [hv] at hbx; exact hbx.elim
        | tup x => rw [hv] at hbx; exact hbx.elim
  have hZdom : ∀ b, ¬ dom b → Z' b → Z b := fun b hb hz => (hfz b hz).resolve_right hb
  -- the boxes of the callee, seen by the caller
  have hbcC : ∀ (c : C) (u : Value), bok ks.length c = true → CRel (ctxOf K.P 1 w us.toArray (idxβ ks β) (idxω ks ω) Z) β' Z' (exitSt cargs r) { tmps := #[v], defers := [] } w' c u → CRel K β'' Z' s2 a w' (bc ks c) u := by
    intro c u hb hc
    cases c with
    | d x => exact hc
    | own e xs => exact hc
    | ptr k off =>
      cases k with
      | inb m =>
        have hm : m < ks.length := by simpa [bok] using hb
        obtain ⟨b, g1, g2⟩ := hc
        obtain ⟨b2, p1, p2, p3⟩ := hβks m _ (List.getElem?_eq_getElem hm)
        rw [p2] at g1
        cases g1
        refine ⟨b, ?_, g2⟩
        rw [List.getD_eq_getElem?_getD, List.getElem?_eq_getElem hm]
        exact p3
      | _ => cases hb
    | _ => cases hb
  have hboxR : ∀ (i : Nat) (cs : List C) (kk : Key), r.boxes[i]? = some cs → cs.all (bok ks.length) = true → β'' kk = β' (.inb i) → (if i < ks.length then ks.getD i default else .esc t (i - ks.length)) = kk →
      (BoxRel K β'' ω'' Z' s2 a w' kk (.agg (cs.map (bc ks)))) ∧ (∀ (j e : Nat) (xs : List (List D)) (ad : Addr) (len cap : Nat), (cs.map (bc ks))[j]? = some (.own e xs) → hdr K β'' a w' (.box kk) j = some (.slice (some ad) len cap) → ω'' ad.block = some (.box kk, some j) ∧ Wr w' ad.block (ad.off + cap * e)) := by
    intro i cs kk hi hpl hβk hkk
    have hex : (exitSt cargs r (.box (.inb i))).v = .agg cs := by simp only [exitSt, hi]
    obtain ⟨b, ws, el, lo, hi', g1, g2, g3, g4, g5⟩ := BoxRel.cell hR hex
    have hdb := hωdom b _ g2
    refine ⟨⟨b, ws, el, lo, hi', by rw [hβk]; exact g1, by rw [hω1 b hdb, g2]; simp only [tr, hkk], g3, g4, g5.map_right fun u c hc hr => hbcC c u (bok_mem hpl hc) hr⟩, ?_⟩
    intro j e xs ad len cap hc hh
    have hc : cs[j]? = some (.own e xs) := by
      rw [List.getElem?_map] at hc
      cases hcj : cs[j]? with
      | none => rw [hcj] at hc; cases hc
      | some c0 => rw [hcj] at hc; simp only [Option.map_some, Option.some.injEq] at hc; rw [bc_own hc]
    have hh' : hdr (ctxOf K.P 1 w us.toArray (idxβ ks β) (idxω ks ω) Z) β' { tmps := #[v], defers := [] } w' (.box (.inb i)) j = some (.slice (some ad) len cap) := by
      simp only [hdr] at hh ⊢
      rw [← hβk]
      exact hh
    obtain ⟨q1, q2⟩ := hR.own (.box (.inb i)) j e xs ad len cap rfl (by rw [hex]; exact hc) hh'
    have hd2 := hωdom _ _ q1
    exact ⟨by rw [hω1 _ hd2, q1]; simp only [tr, hkk], q2⟩
  have hhdr2 : ∀ q j, (s2 q).hv = (s q).hv → (s2 q).at j ≠ .dead → hdr K β'' a w' q j = hdr K β a w q j := by
    intro q j hq hd
    obtain ⟨g1, g2⟩ := hsame q hq
    rcases g1 with g1 | ⟨i, k, p, off, cs, hi, rfl, e1, e2, e3, e4, e5⟩
    · exact hhdr q j g1 g2
    · have hil : i < ks.length := (List.getElem?_eq_some_iff.1 hi).1
      obtain ⟨b, p1, p2, p3⟩ := hβks i k hi
      have hB := (hboxR i cs k e3 e5 (by rw [p2, p3]) (by rw [if_pos hil, List.getD_eq_getElem?_getD, hi]; rfl)).1
      rw [e4] at hB
      obtain ⟨b1, ws1, el1, lo1, hi1, a1, _, a3, _, a5⟩ := hB
      obtain ⟨b2, ws2, el2, lo2, hi2, c1, _, c3, _, c5⟩ := BoxRel.cell h e2
      rw [hdr_box a1 a3, hdr_box c1 c3]
      have hj : j = 0 := by
        cases j with
        | zero => rfl
        | succ j => exact absurd (by rw [e1]; simp only [RV.at, e2, SV.cells]; rfl) hd
      subst hj
      obtain ⟨u1, x1, y1⟩ := a5.get (j := 0) rfl
      obtain ⟨u2, x2, y2⟩ := c5.get (j := 0) rfl
      rw [x1, x2]
      obtain ⟨b3, z1, z2⟩ := y1
      obtain ⟨b4, z3, z4⟩ := y2
      rw [hβmono _ _ z3] at z1
      cases z1
      rw [z2, z4]
  have hlift : ∀ (c : C) (u : Value), (∀ (e : Nat) (xs : List (List D)) (ad : Addr) (len cap : Nat), c = .own e xs → u = .slice (some ad) len cap → ¬ dom ad.block) → CRel K β Z s a w c u → CRel K β'' Z' s2 a w' c u := fun c u hcu h1 =>
    CRel.step hβmono (fun b hb => ⟨hdomHeap b (hndZ b hb), hR.zold b hb⟩) hevo hhdr2 (fun e xs ad len cap h2 h3 => hdomHeap _ (hcu e xs ad len cap h2 h3)) h1
  have hliftI : ∀ (q : Res) (j : Nat) (c : C) (u : Value), (∀ k ∈ ks, q ≠ .box k) → (s q).v.cells[j]? = some c → hdr K β a w q j = some u → CRel K β Z s a w c u → CRel K β'' Z' s2 a w' c u := by
    intro q j c u hq hc hu
    refine hlift c u fun e xs ad len cap h1 h2 => ?_
    subst h1; subst h2
    by_cases hra : q.isArg = true
    · cases q with
      | arg i => obtain ⟨g1, g2⟩ := h.argown i j e xs ad len cap hc hu; exact hndA _ g1 g2
      | tmp t => simp [Res.isArg] at hra
      | box k => simp [Res.isArg] at hra
    · exact hnd0 _ _ (h.own q j e xs ad len cap (by simpa using hra) hc hu).1 fun k' j' e' hk' => hq k' hk' (by cases e'; rfl)
  have hs2v : ∀ q, (∀ k ∈ ks, q ≠ .box k) → (∀ i, i < (r.boxes.drop ks.length).length → q ≠ .box (.esc t i)) → (s2 q).v = (s q).v := fun q h1 h2 => by rw [hS2o q h1 h2]
  have hRel : Rel K β'' ω'' Z' s2 a w' := by
    refine ⟨h.size, h.defers, hR.os.trans h.os, hR.tape.trans h.tape, hR.output.trans h.output, Nat.le_trans h.base hR.base, ?_, hR.zin, fun b hb => hR.zold b (h.zold b hb), ?_, ?_, ?_, ?_, ?_, ?_, ?_, fun k b hb => hβmono k b (h.βold k b hb)⟩
    · intro b hb hE
      rw [hdomHeap b (hndA b hb hE)]
      exact h.frame b hb hE
    · intro b hb
      rcases hfz b hb with g | g
      · rcases h.znew b g with q | q | q | ⟨i, j', e', ys', ad', len', cap', q1, q2, q3⟩
        · exact .inl q
        · exact .inr (.inl q)
        · exact .inr (.inr (.inl q))
        · exact .inr (.inr (.inr ⟨i, j', e', ys', ad', len', cap', by rw [hs2v _ (by simp) (by simp)]; exact q1, q2, q3⟩))
      · rcases g with g | g
        · exact .inr (.inl (Nat.le_trans h.base g))
        · by_cases hb2 : b < K.base
          · right; right; left
            cases hω : ω b with
            | none => simp [idxω, hω] at g
            | some g' => exact (h.ωok b g' hω).2.2 hb2
          · exact .inr (.inl (by omega))
    · intro t'
      rw [hs2v _ (by simp) (by simp)]
      exact SVRel.monoI (fun j c u hc hu => hliftI (.tmp t') j c u (by simp) hc hu) (h.tmps t')
    · intro i
      rw [hs2v _ (by simp) (by simp)]
      exact SVRel.monoI (fun j c u hc hu => hliftI (.arg i) j c u (by simp) hc hu) (h.args i)
    · intro k
      by_cases h1 : k ∈ ks
      · obtain ⟨i, hi⟩ := List.getElem?_of_mem h1
        obtain ⟨cs, g1, g2, _, _, g3⟩ := hS2k i k hi
        obtain ⟨b, p1, p2, p3⟩ := hβks i k hi
        rw [g2]
        refine (hboxR i cs k g1 g3 (by rw [p2, p3]) ?_).1
        have hil : i < ks.length := (List.getElem?_eq_some_iff.1 hi).1
        rw [if_pos hil, List.getD_eq_getElem?_getD, hi]
        rfl
      · by_cases h2 : ∃ i, i < (r.boxes.drop ks.length).length ∧ k = .esc t i
        · obtain ⟨i, hi, rfl⟩ := h2
          obtain ⟨cs, g1, _, g2, _, _, g3⟩ := hS2e i hi
          rw [g2]
          have hh := (hboxR (ks.length + i) cs (.esc t i) g1 (plain_bok g3) (hβesc i hi) (by rw [if_neg (by omega), Nat.add_sub_cancel_left])).1
          rw [bc_plain g3] at hh
          exact hh
        · have hn1 : ∀ k' ∈ ks, Res.box k ≠ .box k' := fun k' hk' e => h1 (by cases e; exact hk')
          have hn2 : ∀ i, i < (r.boxes.drop ks.length).length → Res.box k ≠ .box (.esc t i) := fun i hi e => h2 ⟨i, hi, by cases e; rfl⟩
          rw [hs2v _ hn1 hn2]
          have hbx := h.boxes k
          cases hv : (s (.box k)).v with
          | agg cs =>
            obtain ⟨b, ws, el, lo, hi, g1, g2, g3, g4, g5⟩ := BoxRel.cell h hv
            have hdb : ¬ dom b := hnd0 b _ g2 fun k' j' e hk' => h1 (by cases e; exact hk')
            refine ⟨b, ws, el, lo, hi, hβmono k b g1, by rw [hω2 b hdb]; exact g2, by rw [hdomHeap b hdb]; exact g3, g4, All2.of_get g5.length fun j u c hu hc => ?_⟩
            obtain ⟨u', q1, q2⟩ := g5.get hc
            rw [hu] at q1
            cases q1
            exact hliftI (.box k) j c u hn1 (by rw [hv]; exact hc) (by rw [hdr_box g1 g3]; exact hu) q2
          | undef =>
            rw [hv] at hbx
            show β'' k = none
            rw [hβo k (fun i hi e => h2 ⟨i, hi, e⟩)]
            exact hbx
          | one c => rw [hv] at hbx; exact hbx.elim
          | tup x => rw [hv] at hbx; exact hbx.elim
    · intro q j e xs ad len cap hq hc hh
      by_cases h1 : ∃ k ∈ ks, q = .box k
      · obtain ⟨k, hk, rfl⟩ := h1
        obtain ⟨i, hi⟩ := List.getElem?_of_mem hk
        obtain ⟨cs, g1, g2, _, _, g3⟩ := hS2k i k hi
        obtain ⟨b, p1, p2, p3⟩ := hβks i k hi
        rw [g2] at hc
        refine (hboxR i cs k g1 g3 (by rw [p2, p3]) ?_).2 j e xs ad len cap hc hh
        have hil : i < ks.length := (List.getElem?_eq_some_iff.1 hi).1
        rw [if_pos hil, List.getD_eq_getElem?_getD, hi]
        rfl
      · by_cases h2 : ∃ i, i < (r.boxes.drop ks.length).length ∧ q = .box (.esc t i)
        · obtain ⟨i, hi, rfl⟩ := h2
          obtain ⟨cs, g1, _, g2, _, _, g3⟩ := hS2e i hi
          rw [g2] at hc
          exact (hboxR (ks.length + i) cs (.esc t i) g1 (plain_bok g3) (hβesc i hi) (by rw [if_neg (by omega), Nat.add_sub_cancel_left])).2 j e xs ad len cap (by rw [bc_plain g3]; exact hc) hh
        · have hn1 : ∀ k' ∈ ks, q ≠ .box k' := fun k' hk' e => h1 ⟨k', hk', e⟩
          have hn2 : ∀ i, i < (r.boxes.drop ks.length).length → q ≠ .box (.esc t i) := fun i hi e => h2 ⟨i, hi, e⟩
          rw [hs2v _ hn1 hn2] at hc
          rw [hhdr q j hn1 hn2] at hh
          obtain ⟨g1, g2⟩ := h.own q j e xs ad len cap hq hc hh
          have hdb : ¬ dom ad.block := hnd0 _ _ g1 fun k' j' e' hk' => hn1 k' hk' (by cases e'; rfl)
          exact ⟨by rw [hω2 _ hdb]; exact g1, g2.mono (hdomHeap _ hdb) (Nat.le_refl _)⟩
    · intro i j e xs ad len cap hc hh
      rw [hs2v _ (by simp) (by simp)] at hc
      exact h.argown i j e xs ad len cap hc hh
    · intro b g hb
      by_cases hd : dom b
      · rw [hω1 b hd] at hb
        cases hω : ω' b with
        | none => rw [hω] at hb; simp [tr] at hb
        | some g' =>
          obtain ⟨q1, q2, q3⟩ := hR.ωok b g' hω
          refine ⟨q1, q2, fun hbase => ?_⟩
          have hlt : b < w.heap.size := Nat.lt_of_lt_of_le hbase h.base
          have hne : idxω ks ω b ≠ none := q3 hlt
          cases hω0 : ω b with
          | none => simp [idxω, hω0] at hne
          | some g0 => exact (h.ωok b g0 hω0).2.2 hbase
      · rw [hω2 b hd] at hb
        obtain ⟨q1, q2, q3⟩ := h.ωok b g hb
        exact ⟨fun hz => q1 (hZdom b hd hz), Nat.lt_of_lt_of_le q2 hR.base, q3⟩
  refine ⟨β'', ω'', hRel, ?_⟩
  -- the result
  have hv0 : SVRel (CRel (ctxOf K.P 1 w us.toArray (idxβ ks β) (idxω ks ω) Z) β' Z' (exitSt cargs r) { tmps := #[v], defers := [] } w') v r.v := hR.tmps 0
  have hown0 : ∀ (j e : Nat) (xs : List (List D)) (ad : Addr) (len cap : Nat), r.v.cells[j]? = some (.own e xs) → (flat v)[j]? = some (.slice (some ad) len cap) → ω'' ad.block = some (.tmp t, some j) ∧ Wr w' ad.block (ad.off + cap * e) ∧ dom ad.block := by
    intro j e xs ad len cap hc hh
    obtain ⟨q1, q2⟩ := hR.own (.tmp 0) j e xs ad len cap rfl hc hh
    have hd := hωdom _ _ q1
    exact ⟨by rw [hω1 _ hd, q1]; rfl, q2, hd⟩
  have hfree : ∀ (j : Nat) (ad : Addr), ω'' ad.block = some (.tmp t, some j) → dom ad.block → Free K β'' s2 a w' ad.block := by
    intro j ad hω hd q j' e' xs' ad' len' cap' hq hc hh hb
    have g := (hRel.own q j' e' xs' ad' len' cap' hq hc hh).1
    rw [hb, hω] at g
    simp only [Option.some.injEq, Prod.mk.injEq] at g
    obtain ⟨rfl, rfl⟩ := g
    rw [hs2v _ (by simp) (by simp)] at hc
    rw [hhdr _ _ (by simp) (by simp)] at hh
    have g2 := (h.own (.tmp t) j e' xs' ad' len' cap' rfl hc hh).1
    exact hnd0 _ _ g2 (by intro k j e; cases e) (by rw [hb]; exact hd)
  have hbackC : ∀ (c c' : C) (x : Value) (q q' : St), (back ks t c).exec q = some (c', q') → CRel (ctxOf K.P 1 w us.toArray (idxβ ks β) (idxω ks ω) Z) β' Z' (exitSt cargs r) { tmps := #[v], defers := [] } w' c x →
      CRel K β'' Z' s2 a w' c' x ∧ (∀ e xs, c' = .own e xs → c = .own e xs) := by
    intro c c' x q q' he hc
    unfold back at he
    split at he
    · obtain ⟨rfl, _⟩ := exec_ret he; exact ⟨hc, by simp⟩
    · obtain ⟨rfl, _⟩ := exec_ret he; exact ⟨hc, by simp⟩
    · rename_i i off
      obtain ⟨rfl, _⟩ := exec_ret he
      obtain ⟨b, g1, g2⟩ := hc
      refine ⟨⟨b, ?_, g2⟩, by simp⟩
      simp only [backKey]
      split
      · rename_i hi
        have hki := List.getElem?_eq_getElem hi
        obtain ⟨b2, p1, p2, p3⟩ := hβks i _ hki
        rw [List.getD_eq_getElem?_getD, hki]
        rw [p2] at g1
        cases g1
        exact p3
      · rename_i hi
        have hbx := hR.boxes (.inb i)
        cases hri : r.boxes[i]? with
        | none =>
          have : (exitSt cargs r (.box (.inb i))).v = .undef := by simp only [exitSt, hri]
          rw [this] at hbx
          simp only [BoxRel] at hbx
          rw [hbx] at g1
          cases g1
        | some cs =>
          have hil := (List.getElem?_eq_some_iff.1 hri).1
          rw [hβesc (i - ks.length) (by simp; omega), show ks.length + (i - ks.length) = i by omega]
          exact g1
    · obtain ⟨_, x1, h1, he2⟩ := exec_bind' he
      obtain ⟨hcap, _⟩ := exec_need h1
      obtain ⟨rfl, _⟩ := exec_ret he2
      rw [hcap] at hc
      obtain ⟨vs, g1, g2⟩ := hc
      exact ⟨⟨vs, g1, by cases hvs : vs.toList with | nil => trivial | cons _ _ => rw [hvs] at g2; exact g2.elim⟩, by simp⟩
    · simp [Prog.exec] at he
  have hbackCs : ∀ (cs : List C) (xs : List Value) (cs' : List C) (q q' : St), (backs ks t cs).exec q = some (cs', q') → All2 (fun u c => CRel (ctxOf K.P 1 w us.toArray (idxβ ks β) (idxω ks ω) Z) β' Z' (exitSt cargs r) { tmps := #[v], defers := [] } w' c u) xs cs →
      All2 (fun u c => CRel K β'' Z' s2 a w' c u) xs cs' ∧ (∀ (j e : Nat) ys, cs'[j]? = some (.own e ys) → cs[j]? = some (.own e ys)) := by
    intro cs
    induction cs with
    | nil =>
      intro xs cs' q q' he hall
      obtain ⟨rfl, _⟩ := exec_ret he
      cases xs with
      | nil => exact ⟨trivial, by simp⟩
      | cons _ _ => exact hall.elim
    | cons c cs ih =>
      intro xs cs' q q' he hall
      cases xs with
      | nil => exact hall.elim
      | cons x xs =>
        simp only [backs] at he
        obtain ⟨c1, x1, h1, he1⟩ := exec_bind' he
        obtain ⟨cs1, x2, h2, he2⟩ := exec_bind' he1
        obtain ⟨rfl, _⟩ := exec_ret he2
        obtain ⟨p1, p2⟩ := hbackC _ _ _ _ _ h1 hall.1
        obtain ⟨q1, q2⟩ := ih xs cs1 _ _ h2 hall.2
        refine ⟨⟨p1, q1⟩, fun j e ys hj => ?_⟩
        cases j with
        | zero => simp only [List.getElem?_cons_zero, Option.some.injEq] at hj ⊢; exact p2 e ys hj
        | succ j => simpa using q2 j e ys (by simpa using hj)
  have fin : ∀ v', SVRel (CRel K β'' Z' s2 a w') v v' → (∀ (j e : Nat) ys, v'.cells[j]? = some (.own e ys) → r.v.cells[j]? = some (.own e ys)) → Pend K β'' ω'' Z' s2 a w' (.tmp t) v v' := by
    intro v' h1 h2
    refine ⟨h1, fun j c x hc hx => ?_⟩
    obtain ⟨x', g1, g2⟩ := h1.cell hc
    rw [hx] at g1
    cases g1
    refine ⟨g2, fun e xs ad len cap q1 q2 => ?_⟩
    subst q1; subst q2
    obtain ⟨p1, p2, p3⟩ := hown0 j e xs ad len cap (h2 j e xs hc) hx
    exact ⟨p1, p2, hfree j ad p1 p3⟩
  cases hrv : r.v with
  | one c =>
    rw [hrv] at hback hv0
    simp only [backSV] at hback
    obtain ⟨c1, x1, h1, he⟩ := exec_bind' hback
    obtain ⟨rfl, _⟩ := exec_ret he
    obtain ⟨p1, p2⟩ := hbackC _ _ _ _ _ h1 hv0.2
    refine fin _ ⟨hv0.1, p1⟩ fun j e ys hj => ?_
    rw [hrv]
    cases j with
    | zero => simp only [SV.cells, List.getElem?_cons_zero, Option.some.injEq] at hj ⊢; exact p2 e ys hj
    | succ j => simp [SV.cells] at hj
  | agg cs =>
    rw [hrv] at hback hv0
    simp only [backSV] at hback
    obtain ⟨c1, x1, h1, he⟩ := exec_bind' hback
    obtain ⟨rfl, _⟩ := exec_ret he
    obtain ⟨ws, hws, hall⟩ := hv0
    obtain ⟨p1, p2⟩ := hbackCs _ _ _ _ _ h1 hall
    exact fin _ ⟨ws, hws, p1⟩ fun j e ys hj => by rw [hrv]; exact p2 j e ys hj
  | tup vs =>
    rw [hrv] at hback hv0
    simp only [backSV] at hback
    obtain ⟨c1, x1, h1, he⟩ := exec_bind' hback
    obtain ⟨rfl, _⟩ := exec_ret he
    obtain ⟨ws, hws, hall⟩ := hv0
    have key : ∀ (vs : List (Bool × List C)) (xs : List Value) (vs' : List (Bool × List C)) (q q' : St), (backTup ks t vs).exec q = some (vs', q') → All2 (TRel (CRel (ctxOf K.P 1 w us.toArray (idxβ ks β) (idxω ks ω) Z) β' Z' (exitSt cargs r) { tmps := #[v], defers := [] } w')) xs vs →
        All2 (TRel (CRel K β'' Z' s2 a w')) xs vs' ∧ (vs'.map (·.2.length) = vs.map (·.2.length)) ∧ (∀ (j e : Nat) ys, (vs'.flatMap (·.2))[j]? = some (.own e ys) → (vs.flatMap (·.2))[j]? = some (.own e ys)) := by
      intro vs
      induction vs with
      | nil =>
        intro xs vs' q q' he hall
        obtain ⟨rfl, _⟩ := exec_ret he
        cases xs with
        | nil => exact ⟨trivial, rfl, by simp⟩
        | cons _ _ => exact hall.elim
      | cons x vs ih =>
        obtain ⟨b, cs⟩ := x
        intro xs vs' q q' he hall
        cases xs with
        | nil => exact hall.elim
        | cons x xs =>
          simp only [backTup] at he
          obtain ⟨c1, x1, h1, he1⟩ := exec_bind' he
          obtain ⟨cs1, x2, h2, he2⟩ := exec_bind' he1
          obtain ⟨rfl, _⟩ := exec_ret he2
          obtain ⟨q1, q2, q3⟩ := ih xs cs1 _ _ h2 hall.2
          have hfl := TRel.flat hall.1
          obtain ⟨p1, p2⟩ := hbackCs cs x.cells.toList c1 _ _ h1 hfl
          have hl : c1.length = cs.length := by rw [← p1.length, hfl.length]
          refine ⟨⟨?_, q1⟩, by simp [q2, hl], fun j e ys hj => ?_⟩
          · have h3 := hall.1
            unfold TRel at h3 ⊢
            cases b with
            | true =>
              simp only [if_true] at h3 ⊢
              obtain ⟨ws, rfl, _⟩ := h3
              exact ⟨ws, rfl, p1⟩
            | false =>
              simp only [Bool.false_eq_true, if_false] at h3 ⊢
              obtain ⟨c, g1, g2, _⟩ := h3
              rw [cells_of_isOne g2] at p1
              match c1, p1 with
              | [d], p1 => exact ⟨d, rfl, g2, p1.1⟩
          · simp only [List.flatMap_cons] at hj ⊢
            by_cases hjl : j < c1.length
            · rw [List.getElem?_append_left hjl] at hj
              rw [List.getElem?_append_left (by omega)]
              exact p2 j e ys hj
            · rw [List.getElem?_append_right (by omega)] at hj
              rw [List.getElem?_append_right (by omega), ← hl]
              exact q3 _ e ys hj
    obtain ⟨p1, _, p2⟩ := key _ _ _ _ _ h1 hall
    exact fin _ ⟨ws, hws, p1⟩ fun j e ys hj => by rw [hrv]; exact p2 j e ys hj
  | undef => rw [hrv] at hback; simp [backSV, Prog.exec] at hback
end
end Go.Vs
/- The order of a region's operations: operations whose footprints do not meet can be exchanged. -/
namespace Go.Vs
def Agree (R : List Res) (s s' : St) : Prop := ∀ r ∈ R, s r = s' r
/-- what a program does depends only on what it reads; it changes only what it writes -/
theorem exec_local {α : Type} (p : Prog α) : ∀ (s s' : St) (a : α) (t : St), p.exec s = some (a, t) → Agree (p.foot s).1 s s' →
    ∃ t', p.exec s' = some (a, t') ∧ p.foot s' = p.foot s ∧ (∀ r ∈ (p.foot s).2, t' r = t r) ∧ (∀ r, r ∉ (p.foot s).2 → t' r = s' r ∧ t r = s r) := by
  induction p with
  | ret a =>
    intro s s' a' t h _
    simp only [Prog.exec, Option.some.injEq, Prod.mk.injEq] at h
    obtain ⟨rfl, rfl⟩ := h
    exact ⟨s', by simp [Prog.exec], by simp [Prog.foot], by simp [Prog.foot], by simp⟩
  | fail => intro s s' a t h; simp [Prog.exec] at h
  | get r k ih =>
    intro s s' a t h hag
    simp only [Prog.exec] at h
    have hr : s r = s' r := hag r (by simp [Prog.foot])
    obtain ⟨t', h1, h2, h3, h4⟩ := ih (s r) s s' a t h (fun q hq => hag q (by simp [Prog.foot, hq]))
    refine ⟨t', ?_, ?_, ?_, ?_⟩
    · simp only [Prog.exec]; rw [← hr]; exact h1
    · simp only [Prog.foot]; rw [← hr, h2]
    · simpa [Prog.foot] using h3
    · simpa [Prog.foot] using h4
  | put r x k ih =>
    intro s s' a t h hag
    simp only [Prog.exec] at h
    obtain ⟨t', h1, h2, h3, h4⟩ := ih (s.set r x) (s'.set r x) a t h (fun q hq => by
      by_cases hqr : q = r
      · subst hqr; simp [set_same]
      · rw [set_other _ _ hqr, set_other _ _ hqr]; exact hag q (by simp [Prog.foot, hq]))
    refine ⟨t', by simpa [Prog.exec] using h1, by simp [Prog.foot, h2], ?_, ?_⟩
    · intro q hq
      simp only [Prog.foot, List.mem_cons] at hq
      by_cases hw : q ∈ (k.foot (s.set r x)).2
      · exact h3 q hw
      · obtain ⟨e1, e2⟩ := h4 q hw
        rcases hq with rfl | hq
        · rw [e1, e2, set_same, set_same]
        · exact absurd hq hw
    · intro q hq
      simp only [Prog.foot, List.mem_cons, not_or] at hq
      obtain ⟨e1, e2⟩ := h4 q hq.2
      rw [e1, e2, set_other _ _ hq.1, set_other _ _ hq.1]
      exact ⟨rfl, rfl⟩
def indep (f g : List Res × List Res) : Bool :=
  f.2.all (fun r => !g.1.contains r && !g.2.contains r) && g.2.all (fun r => !f.1.contains r)
theorem indep_spec {f g : List Res × List Res} (h : indep f g = true) : (∀ r ∈ f.2, r ∉ g.1 ∧ r ∉ g.2) ∧ (∀ r ∈ g.2, r ∉ f.1) := by
  simp only [indep, Bool.and_eq_true, List.all_eq_true, Bool.not_eq_true', List.contains_eq_mem, decide_eq_false_iff_not] at h
  exact h
theorem exec_swap {α β : Type} {p : Prog α} {q : Prog β} {s s1 s2 : St} {a : α} {b : β} (hp : p.exec s = some (a, s1)) (hq : q.exec s1 = some (b, s2))
    (hi : indep (p.foot s) (q.foot s1) = true) :
    ∃ t1, q.exec s = some (b, t1) ∧ p.exec t1 = some (a, s2) ∧ q.foot s = q.foot s1 ∧ p.foot t1 = p.foot s := by
  obtain ⟨h1, h2⟩ := indep_spec hi
  have hloc := exec_local p s s a s1 hp (fun _ _ => rfl)
  have hps : ∀ r, r ∉ (p.foot s).2 → s1 r = s r := fun r hr => by
    obtain ⟨t', e, _, _, h4⟩ := hloc
    exact (h4 r hr).2
  have hqs : ∀ r, r ∉ (q.foot s1).2 → s2 r = s1 r := fun r hr => by
    obtain ⟨t', e, _, _, h4⟩ := exec_local q s1 s1 b s2 hq (fun _ _ => rfl)
    exact (h4 r hr).2
  obtain ⟨t1, e1, f1, g1, k1⟩ := exec_local q s1 s b s2 hq (fun r hr => hps r (fun hm => (h1 r hm).1 hr))
  obtain ⟨t2, e2, f2, g2, k2⟩ := exec_local p s t1 a s1 hp (fun r hr => ((k1 r (fun hm => h2 r hm hr)).1).symm)
  refine ⟨t1, e1, ?_, f1, f2⟩
  rw [e2]
  congr 2
  funext r
  by_cases hw : r ∈ (p.foot s).2
  · rw [g2 r hw, hqs r (h1 r hw).2]
  · rw [(k2 r hw).1]
    by_cases hv : r ∈ (q.foot s1).2
    · exact g1 r hv
    · rw [(k1 r hv).1, hqs r hv, hps r hw]
/-! ## Runs by index -/
abbrev FP := Nat → List Res × List Res
def stepI (cfg : Cfg) (ops : Array Oper) (i : Nat) : Prog Unit :=
  match ops[i]? with
  | some o => astep cfg ops o
  | none => .ret ()
def RunF (cfg : Cfg) (ops : Array Oper) (fp : FP) : List Nat → St → St → Prop
  | [], s, s' => s = s'
  | i :: r, s, s' => ∃ s1, (stepI cfg ops i).exec s = some ((), s1) ∧ (stepI cfg ops i).foot s = fp i ∧ RunF cfg ops fp r s1 s'
variable {cfg : Cfg} {ops : Array Oper} {fp : FP}
theorem RunF.front {i : Nat} {B : List Nat} : ∀ {A : List Nat} {s s' : St}, RunF cfg ops fp (A ++ i :: B) s s' → (∀ a ∈ A, indep (fp a) (fp i) = true) →
    RunF cfg ops fp (i :: (A ++ B)) s s' := by
  intro A
  induction A with
  | nil => intro s s' h _; exact h
  | cons a A ih =>
    intro s s' h hA
    obtain ⟨s1, e1, f1, h1⟩ := h
    obtain ⟨s2, e2, f2, h2⟩ := ih h1 (fun x hx => hA x (List.mem_cons_of_mem _ hx))
    obtain ⟨t1, g1, g2, g3, g4⟩ := exec_swap e1 e2 (by rw [f1, f2]; exact hA a (List.mem_cons_self ..))
    exact ⟨t1, g1, g3.trans f2, s2, g2, g4.trans f1, h2⟩
/-- the ancestors of each operation -/
def ancsFrom : List Oper → List (List Nat) → List (List Nat)
  | [], acc => acc
  | o :: r, acc => ancsFrom r (acc ++ [((o.after.toList.filter (Region.binds .any)).flatMap fun e => e.on :: acc.getD e.on []).eraseDups])
def ancs (ops : Array Oper) : List (List Nat) := ancsFrom ops.toList []
/-- listed: closed downwards over what precedes -/
def Closed (ops : Array Oper) (L : Nat → Bool) : Prop := ∀ (i : Nat) (o : Oper), ops[i]? = some o → L i = true → ∀ e ∈ o.after, Region.binds .any e = true → L e.on = true
theorem ancsFrom_spec (ops : Array Oper) (L : Nat → Bool) (hL : Closed ops L) : ∀ (l : List Oper) (acc : List (List Nat)),
    (∀ (k : Nat), k < l.length → ops[acc.length + k]? = l[k]?) →
    (∀ (i : Nat) (o : Oper), i < acc.length → ops[i]? = some o → (∀ e ∈ o.after, Region.binds .any e = true → L e.on = true) → ∀ x ∈ acc.getD i [], L x = true) →
    ∀ (i : Nat) (o : Oper), i < acc.length + l.length → ops[i]? = some o → (∀ e ∈ o.after, Region.binds .any e = true → L e.on = true) → ∀ x ∈ (ancsFrom l acc).getD i [], L x = true := by
  intro l
  induction l with
  | nil => intro acc _ h i o hi ho he x hx; exact h i o (by simpa using hi) ho he x hx
  | cons o l ih =>
    intro acc hops hacc i o' hi ho' he x hx
    simp only [ancsFrom] at hx
    refine ih _ ?_ ?_ i o' (by simp at hi ⊢; omega) ho' he x hx
    · intro k hk
      have := hops (k + 1) (by simp; omega)
      simp only [List.length_append, List.length_cons, List.length_nil]
      rw [show acc.length + (0 + 1) + k = acc.length + (k + 1) by omega, this]
      simp
    · intro j oj hj hoj hej y hy
      by_cases hlt : j < acc.length
      · rw [List.getD_eq_getElem?_getD, List.getElem?_append_left hlt, ← List.getD_eq_getElem?_getD] at hy
        exact hacc j oj hlt hoj hej y hy
      · have hj' : j = acc.length := by simp at hj; omega
        subst hj'
        have h0 := hops 0 (by simp)
        simp only [Nat.add_zero, List.getElem?_cons_zero] at h0
        rw [hoj] at h0
        cases h0
        simp only [List.getD_eq_getElem?_getD, List.getElem?_append_right (Nat.le_refl _), Nat.sub_self, List.getElem?_cons_zero, Option.getD_some, List.mem_eraseDups, List.mem_flatMap, List.mem_filter] at hy
        obtain ⟨e, ⟨hem, hb⟩, hy⟩ := hy
        have hon : L e.on = true := hej e (by simpa using hem) hb
        rcases List.mem_cons.1 hy with rfl | hy
        · exact hon
        · by_cases hel : e.on < acc.length
          · have hex : e.on < ops.size := by
              have := (Array.getElem?_eq_some_iff.1 hoj).1
              omega
            have hoe : ops[e.on]? = some ops[e.on] := Array.getElem?_eq_getElem hex
            exact hacc e.on _ hel hoe (hL e.on _ hoe hon) y hy
          · rw [List.getElem?_eq_none (by omega)] at hy
            simp at hy
theorem ancs_spec {L : Nat → Bool} (hL : Closed ops L) {i : Nat} {o : Oper} (ho : ops[i]? = some o) (he : ∀ e ∈ o.after, Region.binds .any e = true → L e.on = true) :
    ∀ x ∈ (ancs ops).getD i [], L x = true :=
  ancsFrom_spec ops L hL ops.toList [] (by simp) (by simp) i o (by simpa using (Array.getElem?_eq_some_iff.1 ho).1) ho he
/-- the check: two operations of which neither must precede do not meet -/
def fpsOf (cfg : Cfg) (ops : Array Oper) : List Oper → St → Option (List (List Res × List Res))
  | [], _ => some []
  | o :: r, s => match (astep cfg ops o).exec s with
    | some (_, s') => match fpsOf cfg ops r s' with
      | some l => some ((astep cfg ops o).foot s :: l)
      | none => none
    | none => none
def pairsOk (fps : List (List Res × List Res)) (an : List (List Nat)) : Bool :=
  (List.range fps.length).all fun j => (List.range j).all fun i => (an.getD j []).contains i || indep (fps.getD i ([], [])) (fps.getD j ([], []))
def orderOk (cfg : Cfg) (ops : Array Oper) (s : St) : Bool :=
  match fpsOf cfg ops ops.toList s with
  | some fps => pairsOk fps (ancs ops)
  | none => false
theorem pairsOk_spec {fps : List (List Res × List Res)} {an : List (List Nat)} (h : pairsOk fps an = true) {i j : Nat} (hij : i < j) (hj : j < fps.length) (hn : i ∉ an.getD j []) :
    indep (fps.getD i ([], [])) (fps.getD j ([], [])) = true := by
  simp only [pairsOk, List.all_eq_true, List.mem_range, Bool.or_eq_true, List.contains_eq_mem, decide_eq_true_eq] at h
  exact (h j hj i hij).resolve_left hn
theorem runF_of_runOps : ∀ (l : List Oper) (k : Nat) (s s' : St) (fps : List (List Res × List Res)) (pre : List (List Res × List Res)),
    (∀ i, i < l.length → ops[k + i]? = l[i]?) → pre.length = k → runOps cfg ops l s = some s' → fpsOf cfg ops l s = some fps →
    RunF cfg ops (fun i => (pre ++ fps).getD i ([], [])) (List.range' k l.length) s s' ∧ fps.length = l.length := by
  intro l
  induction l with
  | nil => intro k s s' fps pre _ _ h hf; simp [runOps] at h; simp [fpsOf] at hf; subst hf; simp [RunF, h]
  | cons o l ih =>
    intro k s s' fps pre hops hpre h hf
    simp only [runOps] at h
    simp only [fpsOf] at hf
    cases he : (astep cfg ops o).exec s with
    | none => simp [he] at h
    | some x =>
      obtain ⟨⟨⟩, s1⟩ := x
      simp only [he] at h hf
      cases hf1 : fpsOf cfg ops l s1 with
      | none => simp [hf1] at hf
      | some fl =>
        simp only [hf1, Option.some.injEq] at hf
        subst hf
        obtain ⟨hr, hlen⟩ := ih (k + 1) s1 s' fl (pre ++ [(astep cfg ops o).foot s]) (fun i hi => by
          have := hops (i + 1) (by simp; omega)
          rw [show k + 1 + i = k + (i + 1) by omega, this]; simp) (by simp [hpre]) h hf1
        have ho : ops[k]? = some o := by have := hops 0 (by simp); simpa using this
        refine ⟨?_, by simp [hlen]⟩
        simp only [List.length_cons, List.range'_succ, RunF]
        refine ⟨s1, by simp [stepI, ho, he], ?_, ?_⟩
        · simp only [stepI, ho]
          subst hpre
          simp
        · simpa using hr
/-- in whatever order the edges allow, the run comes to the same end -/
theorem anyOrder {P : Program} {Q : Exit → Act → World → Prop} {s' : St} (Good : St → Act → World → Prop)
    (hstep : ∀ (i : Nat) (o : Oper) (s s1 : St) (a : Act) (w : World) (K : Act → World → Prop), ops[i]? = some o → (astep cfg ops o).exec s = some ((), s1) → Good s a w →
      (∀ a' w', Good s1 a' w' → K a' w') → wpOp P ops Q i K a w)
    (hend : ∀ a w, Good s' a w → Q .normal a w)
    (hpair : ∀ i j, i < j → j < ops.size → i ∉ (ancs ops).getD j [] → indep (fp i) (fp j) = true)
    (hedges : ∀ (i : Nat) (o : Oper), ops[i]? = some o → ∀ e ∈ o.after, Region.binds .any e = true → e.on < i) :
    ∀ (fuel : Nat) (R : List Nat) (listed : Array Bool) (s : St) (a : Act) (w : World), R.length = fuel → listed.size = ops.size → R.Pairwise (· < ·) →
      (∀ i, i ∈ R ↔ (i < ops.size ∧ listed.getD i true = false)) → Closed ops (fun i => listed.getD i false) →
      RunF cfg ops fp R s s' → Good s a w → wpAny P .any ops Q fuel listed a w := by
  intro fuel
  induction fuel with
  | zero =>
    intro R listed s a w hR _ _ hmem _ hrun hg
    have : R = [] := List.length_eq_zero_iff.1 hR
    subst this
    simp only [RunF] at hrun
    subst hrun
    refine ⟨?_, hend a w hg⟩
    apply List.eq_nil_iff_forall_not_mem.2
    intro i hi
    obtain ⟨h1, o, ho, _⟩ := mem_ready.1 hi
    have := (hmem i).2 ⟨(Array.getElem?_eq_some_iff.1 ho).1, h1⟩
    simp at this
  | succ fuel ih =>
    intro R listed s a w hR hsz hsort hmem hcl hrun hg
    constructor
    · intro hnil
      exfalso
      -- the least of R is ready
      cases R with
      | nil => simp at hR
      | cons k R =>
        obtain ⟨hk1, hk2⟩ := (hmem k).1 (List.mem_cons_self ..)
        have ho : ops[k]? = some ops[k] := Array.getElem?_eq_getElem hk1
        have : k ∈ Region.ready .any ops listed := mem_ready.2 ⟨hk2, _, ho, fun e he hb => by
          have hlt := hedges k _ ho e he hb
          have hlt2 : e.on < listed.size := by omega
          by_cases hl : listed.getD e.on true = false
          · have hm := (hmem e.on).2 ⟨by omega, hl⟩
            rcases List.mem_cons.1 hm with h | h
            · omega
            · have := (List.pairwise_cons.1 hsort).1 _ h; omega
          · simp only [Array.getD_eq_getD_getElem?, Array.getElem?_eq_getElem hlt2, Option.getD_some] at hl ⊢
            simpa using hl⟩
        rw [hnil] at this
        simp at this
    · intro i hi
      obtain ⟨hi1, o, ho, hi2⟩ := mem_ready.1 hi
      have hisz : i < ops.size := (Array.getElem?_eq_some_iff.1 ho).1
      have hiR : i ∈ R := (hmem i).2 ⟨hisz, hi1⟩
      obtain ⟨A, B, rfl⟩ := List.append_of_mem hiR
      have hsort' := List.pairwise_append.1 hsort
      have hanc := ancs_spec hcl ho hi2
      have hfront := RunF.front hrun (fun x hx => by
        have hxi : x < i := hsort'.2.2 x hx i (List.mem_cons_self ..)
        refine hpair x i hxi hisz (fun hm => ?_)
        have h1 := hanc x hm
        have h2 := ((hmem x).1 (List.mem_append_left _ hx)).2
        have hx2 : x < listed.size := by omega
        simp only [Array.getD_eq_getD_getElem?, Array.getElem?_eq_getElem hx2, Option.getD_some] at h1 h2
        rw [h1] at h2
        cases h2)
      obtain ⟨s1, e1, _, hrest⟩ := hfront
      simp only [stepI, ho] at e1
      refine hstep i o s s1 a w _ ho e1 hg (fun a' w' hg' => ?_)
      have hsub : (A ++ B).Sublist (A ++ i :: B) := List.Sublist.append_left (List.sublist_cons_self _ _) _
      have hiNot : i ∉ A ++ B := by
        intro hm
        rcases List.mem_append.1 hm with h | h
        · exact absurd (hsort'.2.2 i h i (List.mem_cons_self ..)) (by omega)
        · exact absurd ((List.pairwise_cons.1 hsort'.2.1).1 i h) (by omega)
      refine ih (A ++ B) (listed.setIfInBounds i true) s1 a' w' (by simp at hR ⊢; omega) (by simpa using hsz) (hsort.sublist hsub) ?_ ?_ hrest hg'
      · intro x
        constructor
        · intro hx
          have hne : x ≠ i := fun h => hiNot (h ▸ hx)
          obtain ⟨h1, h2⟩ := (hmem x).1 (hsub.mem hx)
          exact ⟨h1, by rw [getD_set_ne _ (Ne.symm hne)]; exact h2⟩
        · rintro ⟨h1, h2⟩
          have hne : x ≠ i := by
            rintro rfl
            rw [Array.getD_eq_getD_getElem?, Array.getElem?_setIfInBounds_self_of_lt (by omega)] at h2
            simp at h2
          rw [getD_set_ne _ (Ne.symm hne)] at h2
          have := (hmem x).2 ⟨h1, h2⟩
          simp only [List.mem_append, List.mem_cons] at this ⊢
          rcases this with h | h | h
          · exact .inl h
          · exact absurd h hne
          · exact .inr h
      · intro x ox hox hx e he hb
        by_cases hxi : x = i
        · subst hxi
          rw [ho] at hox
          cases hox
          exact getD_set_true (hi2 e he hb)
        · have hx' : (listed.setIfInBounds i true).getD x false = true := hx
          rw [getD_set_ne _ (Ne.symm hxi)] at hx'
          exact getD_set_true (hcl x ox hox hx' e he hb)
end Go.Vs
/- Each operation; a region in any order. -/
namespace Go.Vs
/-- the forms of a canonical argument -/
def argOkC : C → Bool
  | .d _ | .own _ _ | .ptr _ _ | .clo _ _ => true
  | _ => false
def argOk (v : SV) : Bool := v.cells.all argOkC
theorem canon_ok {ks : List Key} {c c' : C} {s s' : St} (he : (canon ks c).exec s = some (c', s')) : argOkC c' = true := by
  unfold canon at he
  split at he
  · obtain ⟨rfl, _⟩ := exec_ret he; rfl
  · simp only [Prog.exec] at he
    obtain ⟨_, s1, h1, he⟩ := exec_bind' he
    split at he
    · obtain ⟨_, s2, h2, he⟩ := exec_bind' he
      obtain ⟨rfl, _⟩ := exec_ret he; rfl
    · obtain ⟨rfl, _⟩ := exec_ret he; rfl
    · simp [Prog.exec] at he
  · obtain ⟨rfl, _⟩ := exec_ret he; rfl
  · obtain ⟨rfl, _⟩ := exec_ret he; rfl
  · simp [Prog.exec] at he
theorem canons_ok {ks : List Key} : ∀ {cs cs' : List C} {s s' : St}, (canons ks cs).exec s = some (cs', s') → cs'.all argOkC = true
  | [], _, _, _, he => by obtain ⟨rfl, _⟩ := exec_ret he; rfl
  | c :: cs, cs', s, s', he => by
    simp only [canons] at he
    obtain ⟨c1, s1, h1, he⟩ := exec_bind' he
    obtain ⟨cs1, s2, h2, he⟩ := exec_bind' he
    obtain ⟨rfl, _⟩ := exec_ret he
    simp only [List.all_cons, Bool.and_eq_true]
    exact ⟨canon_ok h1, canons_ok h2⟩
theorem canonSVs_ok {ks : List Key} : ∀ {vs vs' : List SV} {s s' : St}, (canonSVs ks vs).exec s = some (vs', s') → vs'.all argOk = true
  | [], _, _, _, he => by obtain ⟨rfl, _⟩ := exec_ret he; rfl
  | v :: vs, vs', s, s', he => by
    simp only [canonSVs] at he
    obtain ⟨v1, s1, h1, he⟩ := exec_bind' he
    obtain ⟨vs1, s2, h2, he⟩ := exec_bind' he
    obtain ⟨rfl, _⟩ := exec_ret he
    simp only [List.all_cons, Bool.and_eq_true]
    refine ⟨?_, canonSVs_ok h2⟩
    cases v with
    | one c =>
      simp only [canonSV] at h1
      obtain ⟨c1, s3, h3, he3⟩ := exec_bind' h1
      obtain ⟨rfl, _⟩ := exec_ret he3
      simp [argOk, SV.cells, canon_ok h3]
    | agg cs =>
      simp only [canonSV] at h1
      obtain ⟨c1, s3, h3, he3⟩ := exec_bind' h1
      obtain ⟨rfl, _⟩ := exec_ret he3
      exact canons_ok h3
    | _ => simp [canonSV, Prog.exec] at h1
def CallOK (P : Program) (f : FuncId) (F : AFun) : Prop :=
  ∀ (args : List SV) (boxes : List (List C)) (r : CallRes), F args boxes = some r → ∀ (w : World) (vals : Array Value) (β : Key → Option Nat) (ω : Nat → Option Holder) (Z : Nat → Prop),
    vals.size = args.length → args.all argOk = true → boxes.all (fun b => b.all (bok boxes.length)) = true → Rel (ctxOf P 0 w vals β ω Z) β ω Z (entrySt args boxes) { tmps := #[], defers := [] } w →
    ((callFunc f vals).run P w = .ok (.enter f vals) w ∧ Calls P f vals w fun e w' => ∃ v β' ω' Z', e = .returned v ∧ Rel (ctxOf P 1 w vals β ω Z) β' ω' Z' (exitSt args r) { tmps := #[v], defers := [] } w') ∨
    ∃ v w' β' ω' Z', (callFunc f vals).run P w = .ok (.value v) w' ∧ Rel (ctxOf P 1 w vals β ω Z) β' ω' Z' (exitSt args r) { tmps := #[v], defers := [] } w'
structure COK (P : Program) (cfg : Cfg) : Prop where
  tabs : Tabs P cfg
  calls : ∀ t f F, cfg.Γ t f = some F → CallOK P f F
section
variable {K : Ctx} {β : Key → Option Nat} {ω : Nat → Option Holder} {Z : Nat → Prop} {s : St} {a : Act} {w : World} {cfg : Cfg}
/-- what comes of an operation: a value, or a call that comes to one -/
def Sim (K : Ctx) (s' : St) (a : Act) (w : World) (dst : Nat) (r : Result Next) (v : SV) : Prop :=
  Yield K s' a dst r v ∨ ∃ f args, r = .ok (.enter f args) w ∧ Calls K.P f args w fun e w' => ∃ u β' ω' Z', e = .returned u ∧ Rel K β' ω' Z' s' a w' ∧ Pend K β' ω' Z' s' a w' (.tmp dst) u v
theorem callee_spec (h : Rel K β ω Z s a w) {o : Operand} {f : FuncId} {caps : List SV} {s' : St} (he : (calleeP o).exec s = some ((f, caps), s')) :
    s' = s ∧ ∃ vs : Array Value, a.eval o = .func (.func f) #[] vs ∧ All2 (VRel K β Z s a w) vs.toList caps := by
  unfold calleeP at he
  split at he
  · obtain ⟨hx, hs⟩ := exec_ret he
    cases hx
    exact ⟨hs, #[], rfl, trivial⟩
  · obtain ⟨c, s1, h1, he2⟩ := exec_bind' he
    obtain ⟨hs1, o1, r1, hno1⟩ := ev1_spec h h1
    rw [hs1] at he2
    split at he2
    · rename_i f' cs
      obtain ⟨hx, hs⟩ := exec_ret he2
      cases hx
      obtain ⟨vs, g1, g2⟩ := r1
      refine ⟨hs, vs, g1, ?_⟩
      have key : ∀ (us : List Value) (cs : List (Key × Nat)), All2 (fun u (p : Key × Nat) => ∃ b, β p.1 = some b ∧ u = .pointer (some ⟨b, p.2, none⟩)) us cs → All2 (VRel K β Z s a w) us (cs.map fun p => .one (.ptr p.1 p.2)) := by
        intro us
        induction us with
        | nil => intro cs h; cases cs with | nil => trivial | cons _ _ => exact h.elim
        | cons u us ih =>
          intro cs h
          cases cs with
          | nil => exact h.elim
          | cons p cs =>
            obtain ⟨⟨b, q1, q2⟩, q3⟩ := h
            exact ⟨⟨⟨by rw [q2]; rfl, b, q1, q2⟩, by simp [SV.cells, NoOwn], by simp⟩, ih cs q3⟩
      exact key _ _ g2
    · simp [Prog.exec] at he2
theorem call_sim (hC : COK K.P cfg) (h : Rel K β ω Z s a w) {co : Operand} {args : Array Operand} {tys : Array TypeId} {dst : Nat} {o : Oper} (ho : o.op = .call { callee := .value co, args, argTypes := tys }) {v : SV} {s' : St} (he : (aval cfg o.op dst).exec s = some (v, s')) :
    Sim K s' a w dst ((execOp a.eval o).run K.P w) v := by
  rw [ho] at he
  simp only [aval] at he
  obtain ⟨⟨f, caps⟩, s1, h1, he2⟩ := exec_bind' he
  obtain ⟨hs1, cv, hcv, hcaps⟩ := callee_spec h h1
  simp only at he2
  rw [hs1] at he2
  obtain ⟨vs, s2, h2, he3⟩ := exec_bind' he2
  obtain ⟨hs2, hvs, hvs2⟩ := evs_spec h _ h2
  rw [hs2] at he3
  have hall0 : All2 (VRel K β Z s a w) (args.toList.map a.eval ++ cv.toList) (vs ++ caps) := by
    refine All2.append ?_ hcaps
    exact hvs.mono_mem fun u v hv hr => ⟨hr, hvs2 v hv⟩
  unfold callP at he3
  split at he3
  · simp [Prog.exec] at he3
  · rename_i F hF
    obtain ⟨vs1, s3, h3, he4⟩ := exec_bind' he3
    obtain ⟨ω1, Z1, r1, k1, p1⟩ := prepSVs_spec (cfg := cfg) _ _ ω Z s s3 vs1 h hall0 h3
    simp only at he4
    obtain ⟨more, s3', h3', he4b⟩ := exec_bind' he4
    have hs3' := boxKeys_spec _ _ _ h3'
    rw [hs3'] at he4b
    generalize hkk : dedup (keysOf (vs1.flatMap SV.cells) ++ more) = kk at he4b
    have hknd : kk.Nodup := by rw [← hkk]; exact dedup_nodup _
    obtain ⟨cargs, s4, h4, he5⟩ := exec_bind' he4b
    obtain ⟨hs4, hcan⟩ := canonSVs_spec _ _ s4 cargs r1 p1 (fun k hk => by rw [← hkk]; exact mem_dedup (List.mem_append_left _ hk)) h4
    rw [hs4] at he5
    obtain ⟨bs, s5, h5, he6⟩ := exec_bind' he5
    obtain ⟨hs5, hbl, hbx⟩ := getBoxes_spec _ s5 bs h5
    rw [hs5] at he6
    split at he6
    · simp [Prog.exec] at he6
    · rename_i r hr
      obtain ⟨_, s6, h6, he7⟩ := exec_bind' he6
      obtain ⟨⟨hlen, hfrz⟩, hs6⟩ := exec_need h6
      rw [hs6] at he7
      obtain ⟨_, s7, h7, he8⟩ := exec_bind' he7
      obtain ⟨_, s8, h8, he9⟩ := exec_bind' he8
      have hent := entry_rel r1 hknd hcan hbl hbx
      have hsz : (args.toList.map a.eval ++ cv.toList).toArray.size = cargs.length := by
        have := hcan.length
        simpa using this
      have hexec : (execOp a.eval o).run K.P w = (callFunc f (args.toList.map a.eval ++ cv.toList).toArray).run K.P w := by
        have e1 : args.map a.eval ++ cv = (args.toList.map a.eval ++ cv.toList).toArray := by
          apply Array.toList_inj.1
          simp
        simp [execOp, ho, resolve, hcv, Deferred.ofValue, invoke, e1]
      have hpl : bs.all (fun b => b.all (bok bs.length)) = true := by
        rw [List.all_eq_true]
        intro b hb
        obtain ⟨i, hi⟩ := List.getElem?_of_mem hb
        obtain ⟨cs, g1, _, g3⟩ := hbx i _ (List.getElem?_eq_getElem (by rw [← hbl]; exact (List.getElem?_eq_some_iff.1 hi).1))
        rw [hi] at g1
        cases g1
        rw [List.all_map, List.all_eq_true, hbl]
        exact fun c hc => bok_tc (tok_mem g3 hc)
      rcases hC.calls _ f F hF cargs bs r hr w _ _ _ _ hsz (canonSVs_ok h4) hpl hent with ⟨q1, q2⟩ | ⟨u, w', β', ω', Z', q1, q2⟩
      · refine .inr ⟨f, _, by rw [hexec, q1], q2.mono fun e w' ⟨u, β', ω', Z', g1, g2⟩ => ?_⟩
        obtain ⟨β2, ω2, g3, g4⟩ := exit_rel r1 hknd hcan g2 (fun i k hi => by obtain ⟨cs, _, g, _⟩ := hbx i k hi; exact ⟨cs, g⟩) hfrz hlen h7 h8 he9
        exact ⟨u, β2, ω2, Z', g1, g3, g4⟩
      · obtain ⟨β2, ω2, g3, g4⟩ := exit_rel r1 hknd hcan q2 (fun i k hi => by obtain ⟨cs, _, g, _⟩ := hbx i k hi; exact ⟨cs, g⟩) hfrz hlen h7 h8 he9
        exact .inl ⟨u, w', β2, ω2, Z', by rw [hexec, q1], g3, g4⟩
theorem aval_sim (hC : COK K.P cfg) (h : Rel K β ω Z s a w) {dst : Nat} {o : Oper} {v : SV} {s' : St} (he : (aval cfg o.op dst).exec s = some (v, s')) : Sim K s' a w dst ((execOp a.eval o).run K.P w) v := by
  have hT := hC.tabs
  cases ho : o.op with
  | move x => exact .inl (move_spec h ho he)
  | assign x => exact .inl (assign_spec h ho he)
  | pick c x y => exact .inl (pick_spec h ho he)
  | alloc t => exact .inl (alloc_yield hT h ho he)
  | box t x => exact .inl (box_yield h ho he)
  | build t ps => exact .inl (build_yield hT h ho he)
  | buildSlice t n ps => exact .inl (buildSlice_yield hT h ho he)
  | load t x => exact .inl (load_yield hT h ho he)
  | nilCheck x => exact .inl (nilCheck_spec h ho he)
  | binOp op t x y yt => exact .inl (bin_spec hT h ho he)
  | unOp op t x => exact .inl (un_spec h ho he)
  | convert a b x => exact .inl (convert_yield hT h ho he)
  | makeFunc fn first captured =>
    cases fn with
    | func f => exact .inl (makeFunc_yield h ho he)
    | _ => rw [ho] at he; simp [aval, Prog.exec] at he
  | makeSlice t l c => exact .inl (makeSlice_yield hT h ho he)
  | slice t x lo hi mx =>
    cases mx with
    | none => exact .inl (sub_spec hT h ho he)
    | some m => rw [ho] at he; simp [aval, Prog.exec] at he
  | fieldAddr t x f => exact .inl (fieldAddr_yield hT h ho he)
  | field t x f => exact .inl (field_yield hT h ho he)
  | indexAddr t x i => exact .inl (indexAddr_yield hT h ho he)
  | index t x i => exact .inl (index_yield hT h ho he)
  | extract x n => exact .inl (extract_yield h ho he)
  | call c =>
    obtain ⟨callee, args, tys⟩ := c
    cases callee with
    | value co => exact call_sim hC h ho he
    | invoke r m => rw [ho] at he; simp [aval, Prog.exec] at he
    | builtin b =>
      cases b with
      | len => exact .inl (len_yield hT h ho he)
      | append => exact .inl (append_yield hT h ho he)
      | cap => exact .inl (cap_yield hT h ho he)
      | min => exact .inl (minmax_yield (b := true) h ho (by rw [ho] at he; exact he))
      | max => exact .inl (minmax_yield (b := false) h ho (by rw [ho] at he; exact he))
      | _ => rw [ho] at he; simp [aval, Prog.exec] at he
  | _ => rw [ho] at he; simp [aval, Prog.exec] at he
def Good (K : Ctx) (s : St) (a : Act) (w : World) : Prop := ∃ β ω Z, Rel K β ω Z s a w
theorem putTmp_good (hN : K.N = cfg.N) (h : Rel K β ω Z s a w) {t : Nat} {u : Value} {v : SV} (hp : Pend K β ω Z s a w (.tmp t) u v) {y : Unit} {s' : St} (he : (putTmp cfg t v).exec s = some (y, s')) : Good K s' (a.put (some t) u) w := by
  simp only [putTmp, Prog.exec] at he
  obtain ⟨_, s1, h1, he2⟩ := exec_bind' he
  obtain ⟨ht, hs1⟩ := exec_need h1
  rw [hs1] at he2
  simp only [putR, Prog.exec, Option.some.injEq, Prod.mk.injEq] at he2
  obtain ⟨_, rfl⟩ := he2
  exact ⟨β, ω, Z, h.putPend (by omega) hp⟩
theorem step0_sim (hC : COK K.P cfg) (hN : K.N = cfg.N) (h : Rel K β ω Z s a w) {o : Oper} {y : Unit} {s' : St} (he : (astep0 cfg o).exec s = some (y, s')) {Q : Exit → Act → World → Prop} {next : Act → World → Prop} (hK : ∀ a' w', Good K s' a' w' → next a' w') :
    o.wp K.P a w next Q := by
  unfold astep0 at he
  split at he
  · rename_i t ad x ho hd
    split at he
    · rename_i i hti
      obtain ⟨c, s1, h1, he2⟩ := exec_bind' he
      obtain ⟨hs1, o1, r1, hno1⟩ := ev1_spec h h1
      rw [hs1] at he2
      obtain ⟨v, s2, h2, he3⟩ := exec_bind' he2
      obtain ⟨hs2, hv, hno, hnu⟩ := ev_spec h h2
      rw [hs2] at he3
      obtain ⟨w', β', ω', Z', q1, q2⟩ := store_spec h (hC.tabs.T _ _ hti) r1 hv hno he3
      have hexec : (execOp a.eval o).run K.P w = .ok .skip w' := by simp [execOp, ho, q1]
      rw [Oper.wp, hexec, Oper.upon_skip, hd]
      exact hK _ _ ⟨β', ω', Z', q2⟩
    · simp [Prog.exec] at he
  · rename_i d hns hd
    obtain ⟨v, s1, h1, he2⟩ := exec_bind' he
    rcases aval_sim hC h h1 with ⟨u, w', β', ω', Z', q1, q2, q3⟩ | ⟨f, args, q1, q2⟩
    · rw [Oper.wp, q1, Oper.upon_value, hd]
      exact hK _ _ (putTmp_good hN q2 q3 he2)
    · rw [Oper.wp, q1, Oper.upon_enter]
      refine q2.mono ?_
      rintro e w' ⟨u, β', ω', Z', rfl, g2, g3⟩
      simp only
      rw [hd]
      exact hK _ _ (putTmp_good hN g2 g3 he2)
  · simp [Prog.exec] at he
theorem step_sim (hC : COK K.P cfg) (hN : K.N = cfg.N) {ops : Array Oper} {i : Nat} {o : Oper} (hi : ops[i]? = some o) {s s1 : St} {a : Act} {w : World} {Q : Exit → Act → World → Prop} {next : Act → World → Prop} (he : (astep cfg ops o).exec s = some ((), s1)) (hg : Good K s a w) (hK : ∀ a' w', Good K s1 a' w' → next a' w') :
    wpOp K.P ops Q i next a w := by
  obtain ⟨β, ω, Z, h⟩ := hg
  simp only [wpOp, hi]
  unfold astep at he
  split at he
  · rename_i hgd
    have : Region.wanted o (yielded ops a.tmps) = true := by simp [Region.wanted, hgd]
    rw [if_pos this]
    exact .inl (step0_sim hC hN h he hK)
  · rename_i j want hgd
    obtain ⟨b, s2, h2, he2⟩ := exec_bind' he
    have hy : s2 = s ∧ yielded ops a.tmps j = b := by
      unfold guardVal at h2
      split at h2
      · rename_i t hd
        simp only [Prog.exec] at h2
        split at h2
        · rename_i b' hv
          obtain ⟨hb, hs⟩ := exec_ret h2
          refine ⟨hs, ?_⟩
          have ht := h.tmps t
          rw [hv] at ht
          have hval : a.tmps.getD t undef = .bool b' := ht.2
          rw [hb]
          simp only [yielded, hd, Option.bind_some]
          cases hq : a.tmps[t]? with
          | none =>
            rw [Array.getD_eq_getD_getElem?, hq] at hval
            cases hval
          | some x =>
            rw [Array.getD_eq_getD_getElem?, hq] at hval
            simp only [Option.getD_some] at hval
            rw [hval]
        · rename_i hv
          obtain ⟨hb, hs⟩ := exec_ret h2
          refine ⟨hs, ?_⟩
          have ht := h.tmps t
          rw [hv] at ht
          obtain ⟨vs, hval, hall⟩ := ht
          rw [hb]
          simp only [yielded, hd, Option.bind_some]
          cases hq : a.tmps[t]? with
          | none => rfl
          | some x =>
            rw [Array.getD_eq_getD_getElem?, hq] at hval
            simp only [Option.getD_some] at hval
            rw [hval]
        · simp [Prog.exec] at h2
      · simp [Prog.exec] at h2
    obtain ⟨hs2, hy⟩ := hy
    rw [hs2] at he2
    split at he2
    · rename_i hb
      have : Region.wanted o (yielded ops a.tmps) = true := by simp [Region.wanted, hgd, hy, hb]
      rw [if_pos this]
      exact .inl (step0_sim hC hN h he2 hK)
    · rename_i hb
      have : ¬ (Region.wanted o (yielded ops a.tmps) = true) := by simp [Region.wanted, hgd, hy, hb]
      rw [if_neg this]
      split at he2
      · rename_i d hd
        rw [hd]
        exact hK _ _ (putTmp_good hN h (Pend.of_noOwn (u := undef) (v := .tup []) ⟨#[], rfl, trivial⟩ (by simp [SV.cells])) he2)
      · rename_i hd
        obtain ⟨_, hs⟩ := exec_ret he2
        rw [hd]
        refine hK _ _ ?_
        rw [hs]
        exact ⟨β, ω, Z, h⟩
/-- the operations in the text's order -/
theorem ops_sim (hC : COK K.P cfg) (hN : K.N = cfg.N) {ops : Array Oper} {Q : Exit → Act → World → Prop} : ∀ (l : List Oper) (k : Nat) (s s' : St) (a : Act) (w : World), (∀ i, i < l.length → ops[k + i]? = l[i]?) → runOps cfg ops l s = some s' → Good K s a w → (∀ a' w', Good K s' a' w' → Q .normal a' w') →
    wpOps K.P ops Q (List.range' k l.length) a w := by
  intro l
  induction l with
  | nil =>
    intro k s s' a w _ h hg hK
    simp only [runOps, Option.some.injEq] at h
    subst h
    exact hK _ _ hg
  | cons o l ih =>
    intro k s s' a w hops h hg hK
    simp only [runOps] at h
    cases he : (astep cfg ops o).exec s with
    | none => rw [he] at h; cases h
    | some x =>
      obtain ⟨⟨⟩, s1⟩ := x
      rw [he] at h
      have ho : ops[k]? = some o := by have := hops 0 (by simp); simpa using this
      simp only [List.length_cons, List.range'_succ]
      rw [wpOps_cons]
      refine step_sim hC hN ho he hg fun a' w' hg' => ?_
      exact ih (k + 1) s1 s' a' w' (fun i hi => by
        have := hops (i + 1) (by simp; omega)
        rw [show k + 1 + i = k + (i + 1) by omega, this]; simp) h hg' hK
/-- what must hold of a region's edges: closed, by the kernel -/
def edgesOk (ops : Array Oper) : Bool := ops.toList.zipIdx.all fun x => x.1.after.all fun e => !Region.binds .any e || decide (e.on < x.2)
theorem region_sim (hC : COK K.P cfg) (hN : K.N = cfg.N) (hmix : K.P.follows .mixedOrders = true) {id : Nat} {ops : Array Oper} {draw : Bool} {Q : Exit → Act → World → Prop} {s s' : St} {a : Act} {w : World} (h : runOps cfg ops ops.toList s = some s') (hd : draw = true → orderOk cfg ops s = true ∧ edgesOk ops = true)
    (hg : Good K s a w) (hK : ∀ a' w', Good K s' a' w' → Q .normal a' w') : (Code.region id ops draw).wp K.P Q a w := by
  cases draw with
  | false =>
    refine wp_region ?_
    have := ops_sim (Q := Q) hC hN ops.toList 0 s s' a w (by simp) h hg hK
    rw [List.range_eq_range']
    simpa using this
  | true =>
    obtain ⟨h1, h2⟩ := hd rfl
    refine wp_region_any hmix ?_
    unfold orderOk at h1
    cases hf : fpsOf cfg ops ops.toList s with
    | none => rw [hf] at h1; cases h1
    | some fps =>
      rw [hf] at h1
      obtain ⟨hrun, hlen⟩ := runF_of_runOps ops.toList 0 s s' fps [] (by simp) rfl h hf
      obtain ⟨β, ω, Z, hr⟩ := hg
      have hg' : Good K s a { w with drawn := w.drawn + 1 } := ⟨β, ω, Z, hr.drew.1⟩
      simp only [List.nil_append] at hrun
      refine anyOrder (P := K.P) (Q := Q) (s' := s') (Good K) (fun i o s s1 a w next ho he hg hK => step_sim hC hN ho he hg hK) hK (fun i j hij hj hn => pairsOk_spec h1 hij (by rw [hlen]; simpa using hj) hn) (fun i o ho e he hb => ?_) ops.size (List.range' 0 ops.toList.length) _ s a _ (by simp) (by simp) (List.pairwise_lt_range' _) (fun i => ?_) (fun i o ho hL => ?_) hrun hg'
      · simp only [edgesOk, List.all_eq_true] at h2
        have hm : (o, i) ∈ ops.toList.zipIdx := by
          rw [List.mem_zipIdx_iff_getElem?]
          simpa using ho
        have := h2 _ hm
        simp only [Array.all_eq_true_iff_forall_mem, Bool.or_eq_true, Bool.not_eq_true', decide_eq_true_eq] at this
        rcases this e he with q | q
        · rw [hb] at q; cases q
        · exact q
      · simp only [List.mem_range'_1, Array.length_toList, Nat.zero_le, true_and, Nat.zero_add]
        constructor
        · intro hi; exact ⟨hi, by simp [Array.getD_eq_getD_getElem?, hi]⟩
        · rintro ⟨hi, _⟩; exact hi
      · simp only [Array.getD_eq_getD_getElem?, Array.getElem?_replicate] at hL
        split at hL <;> simp at hL
end
end Go.Vs
/- Code over abstract states; what a function gives; soundness. -/
namespace Go.Vs
/-! ## Runs with footprints -/
def Prog.both {α : Type} : Prog α → St → Option (α × St × List Res × List Res)
  | .ret a, s => some (a, s, [], [])
  | .fail, _ => none
  | .get r k, s => match (k (s r)).both s with
    | some (a, s', f, g) => some (a, s', r :: f, g)
    | none => none
  | .put r x k, s => match k.both (s.set r x) with
    | some (a, s', f, g) => some (a, s', f, r :: g)
    | none => none
theorem both_spec {α : Type} (p : Prog α) : ∀ (s : St), p.both s = (p.exec s).map fun x => (x.1, x.2, p.foot s) := by
  induction p with
  | ret a => intro s; rfl
  | fail => intro s; rfl
  | get r k ih =>
    intro s
    simp only [Prog.both, Prog.exec, Prog.foot, ih]
    cases (k (s r)).exec s <;> rfl
  | put r x k ih =>
    intro s
    simp only [Prog.both, Prog.exec, Prog.foot, ih]
    cases k.exec (s.set r x) <;> rfl
def runBoth (cfg : Cfg) (ops : Array Oper) : List Oper → St → Option (St × List (List Res × List Res))
  | [], s => some (s, [])
  | o :: r, s => match (astep cfg ops o).both s with
    | some (_, s', f, g) => match runBoth cfg ops r s' with
      | some (s'', l) => some (s'', (f, g) :: l)
      | none => none
    | none => none
theorem runBoth_spec (cfg : Cfg) (ops : Array Oper) : ∀ (l : List Oper) (s s' : St) (fps : List (List Res × List Res)), runBoth cfg ops l s = some (s', fps) → runOps cfg ops l s = some s' ∧ fpsOf cfg ops l s = some fps := by
  intro l
  induction l with
  | nil => intro s s' fps h; simp only [runBoth, Option.some.injEq, Prod.mk.injEq] at h; obtain ⟨rfl, rfl⟩ := h; exact ⟨rfl, rfl⟩
  | cons o l ih =>
    intro s s' fps h
    simp only [runBoth, both_spec] at h
    simp only [runOps, fpsOf]
    cases he : (astep cfg ops o).exec s with
    | none => rw [he] at h; cases h
    | some x =>
      rw [he] at h
      simp only [Option.map_some] at h
      cases hr : runBoth cfg ops l x.2 with
      | none => rw [hr] at h; cases h
      | some y =>
        rw [hr] at h
        simp only [Option.some.injEq, Prod.mk.injEq] at h
        obtain ⟨rfl, rfl⟩ := h
        obtain ⟨h1, h2⟩ := ih x.2 y.1 y.2 hr
        exact ⟨h1, by simp only [h2]⟩
def drawOk (ops : Array Oper) (fps : List (List Res × List Res)) : Bool := edgesOk ops && pairsOk fps (ancs ops)
/-! ## Code -/
inductive Ex where
  | normal | exit (id : Nat) | ret
  deriving DecidableEq
def condVal (c : Operand) (p : PS) : Option Bool :=
  match c with
  | .tmp t => match lk t p.slots with | some (.one (.d (.bool b))) => some b | _ => none
  | .const (.bool b) => some b
  | _ => none
/-- only the slots of 'live' and the boxes of 'bl' are kept -/
def forget (live : List Nat) (bl : List Key) (p : PS) : PS := fin p.st live bl p.args.length
def Key.isIn : Key → Bool | .inb _ => true | _ => false
def keepsIn (bk bl : List Key) : Bool := bk.all fun k => !k.isIn || bl.contains k
structure VF where
  cfg : Cfg
  keys : List Nat
  bkeys : List Key
def afterRegion (F : VF) (n : Nat) (K : PS → Prop) : Option St → Prop
  | some s => K (fin s F.keys F.bkeys n)
  | none => False
def afterBoth (F : VF) (ops : Array Oper) (n : Nat) (K : PS → Prop) : Option (St × List (List Res × List Res)) → Prop
  | some (s, fps) => drawOk ops fps = true ∧ K (fin s F.keys F.bkeys n)
  | none => False
/-- a loop: an invariant and a measure -/
def LoopW (bk : List Key) (B : PS → (Ex → PS → Prop) → Prop) (p : PS) (Q : Ex → PS → Prop) : Prop :=
  ∃ (live : List Nat) (bl : List Key) (I : PS → Prop) (μ : PS → Nat), keepsIn bk bl = true ∧ I (forget live bl p) ∧ ∀ q, I q → B q fun e q' => match e with
      | .normal => I (forget live bl q') ∧ μ (forget live bl q') < μ q
      | e => Q e q'
@[congr] theorem LoopW.same {bk : List Key} {B : PS → (Ex → PS → Prop) → Prop} {p p' : PS} {Q : Ex → PS → Prop} (h : p = p') : LoopW bk B p Q = LoopW bk B p' Q := by rw [h]
def awp (F : VF) : Code → PS → (Ex → PS → Prop) → Prop
  | .skip, p, Q => Q .normal p
  | .region _ ops false, p, Q => afterRegion F p.args.length (fun p' => Q .normal p') (runOps F.cfg ops ops.toList p.st)
  | .region _ ops true, p, Q => afterBoth F ops p.args.length (fun p' => Q .normal p') (runBoth F.cfg ops ops.toList p.st)
  | .seq a b, p, Q => awp F a p fun e p' => match e with | .normal => awp F b p' Q | e => Q e p'
  | .cond c x y, p, Q => match condVal c p with | some b => (b = true → awp F x p Q) ∧ (b = false → awp F y p Q) | none => False
  | .block id b, p, Q => awp F b p fun e p' => match e with | .exit i => if i = id then Q .normal p' else Q (.exit i) p' | e => Q e p'
  | .loop b, p, Q => LoopW F.bkeys (awp F b) p Q
  | .scope b, p, Q => awp F b p Q
  | .exit id, p, Q => Q (.exit id) p
  | .ret, p, Q => Q .ret p
  | _, _, _ => False
/-! ## The end of a region -/
theorem lk_cons {α : Type} (t u : Nat) (v : α) (r : List (Nat × α)) : lk t ((u, v) :: r) = if t = u then some v else lk t r := rfl
theorem lk_finSlots (s : St) (bk : List Key) (t : Nat) : ∀ (ks : List Nat), ((lk t (finSlots s bk ks)).getD .undef) = if t ∈ ks then stlSV s bk (s (.tmp t)).v else .undef
  | [] => rfl
  | u :: ks => by
    simp only [finSlots]
    have ih := lk_finSlots s bk t ks
    by_cases htu : t = u
    · subst htu
      simp only [List.mem_cons, true_or, if_true]
      cases hv : stlSV s bk (s (.tmp t)).v with
      | undef =>
        simp only [consSlot]
        rw [ih, hv]
        split <;> rfl
      | _ => simp [consSlot, lk_cons]
    · have : lk t (consSlot u (stlSV s bk (s (.tmp u)).v) (finSlots s bk ks)) = lk t (finSlots s bk ks) := by
        cases stlSV s bk (s (.tmp u)).v <;> simp [consSlot, lk_cons, htu]
      rw [this, ih]
      simp [htu]
theorem lkK_finBoxes (s : St) (bk : List Key) (k : Key) : ∀ (ks : List Key), (match lkK k (finBoxes s bk ks) with | some cs => SV.agg cs | none => .undef) = if k ∈ ks then (match (s (.box k)).v with | .agg cs => .agg (stls s bk cs) | _ => .undef) else .undef
  | [] => rfl
  | u :: ks => by
    simp only [finBoxes]
    have ih := lkK_finBoxes s bk k ks
    by_cases hku : k = u
    · subst hku
      simp only [List.mem_cons, true_or, if_true]
      cases hv : (s (.box k)).v with
      | agg cs => simp [stlSV, consBox, lkK]
      | one c =>
        simp only [stlSV, consBox]
        rw [ih]
        split <;> simp [hv]
      | tup c =>
        simp only [stlSV, consBox]
        rw [ih]
        split <;> simp [hv]
      | undef =>
        simp only [stlSV, consBox]
        rw [ih]
        split <;> simp [hv]
    · have : (match lkK k (consBox u (stlSV s bk (s (.box u)).v) (finBoxes s bk ks)) with | some cs => SV.agg cs | none => .undef) = (match lkK k (finBoxes s bk ks) with | some cs => SV.agg cs | none => .undef) := by
        cases (stlSV s bk (s (.box u)).v) <;> simp [consBox, lkK, hku]
      rw [this, ih]
      simp [hku]
theorem finArgs_get (s : St) (bk : List Key) : ∀ (n i0 i : Nat), (finArgs s bk i0 n).getD i .undef = if i < n then stlSV s bk (s (.arg (i0 + i))).v else .undef
  | 0, i0, i => by simp [finArgs]
  | n + 1, i0, 0 => by simp [finArgs]
  | n + 1, i0, i + 1 => by
    have := finArgs_get s bk n (i0 + 1) i
    simp only [finArgs, List.getD_cons_succ, this]
    rw [show i0 + 1 + i = i0 + (i + 1) by omega]
    simp
theorem finArgs_length (s : St) (bk : List Key) : ∀ (n i0 : Nat), (finArgs s bk i0 n).length = n
  | 0, _ => rfl
  | n + 1, i0 => by simp [finArgs, finArgs_length s bk n]
/-- the state behind the end -/
theorem fin_tmp (s : St) (keys : List Nat) (bk : List Key) (n t : Nat) : ((fin s keys bk n).st (.tmp t)).v = if t ∈ keys then stlSV s bk (s (.tmp t)).v else .undef := lk_finSlots s bk t keys
theorem fin_box (s : St) (keys : List Nat) (bk : List Key) (n : Nat) (k : Key) : ((fin s keys bk n).st (.box k)).v = if k ∈ bk then (match (s (.box k)).v with | .agg cs => .agg (stls s bk cs) | _ => .undef) else .undef := lkK_finBoxes s bk k bk
theorem fin_arg (s : St) (keys : List Nat) (bk : List Key) (n i : Nat) : ((fin s keys bk n).st (.arg i)).v = if i < n then stlSV s bk (s (.arg i)).v else .undef := by
  have := finArgs_get s bk n 0 i
  simp only [Nat.zero_add] at this
  exact this
theorem ps_hv (p : PS) (r : Res) : (p.st r).hv = 0 ∧ (p.st r).cv = 0 := by cases r <;> exact ⟨rfl, rfl⟩
theorem stls_get (s : St) (bk : List Key) : ∀ (cs : List C) (j : Nat), (stls s bk cs)[j]? = (cs[j]?).map (stl s bk)
  | [], _ => by simp [stls]
  | c :: cs, 0 => by simp [stls]
  | c :: cs, j + 1 => by simp only [stls, List.getElem?_cons_succ]; exact stls_get s bk cs j
theorem stls_length (s : St) (bk : List Key) : ∀ (cs : List C), (stls s bk cs).length = cs.length
  | [] => rfl
  | c :: cs => by simp [stls, stls_length s bk cs]
theorem stls_append (s : St) (bk : List Key) : ∀ (l m : List C), stls s bk (l ++ m) = stls s bk l ++ stls s bk m
  | [], m => rfl
  | c :: l, m => by simp [stls, stls_append s bk l m]
theorem stlTup_flat (s : St) (bk : List Key) : ∀ (vs : List (Bool × List C)), (stlTup s bk vs).flatMap (·.2) = stls s bk (vs.flatMap (·.2))
  | [] => rfl
  | (b, cs) :: vs => by simp [stlTup, stls_append, stlTup_flat s bk vs]
theorem stlSV_cells (s : St) (bk : List Key) (v : SV) : (stlSV s bk v).cells = stls s bk v.cells := by
  cases v with
  | one c => rfl
  | agg cs => rfl
  | tup vs => simp only [stlSV, SV.cells, stlTup_flat]
  | undef => rfl
theorem stlTup_shape (s : St) (bk : List Key) : ∀ {us : List Value} {vs : List (Bool × List C)}, All2 (TRel Tru) us vs → All2 (TRel Tru) us (stlTup s bk vs)
  | [], [], _ => trivial
  | u :: us, (b, cs) :: vs, h => by
    refine ⟨?_, stlTup_shape s bk h.2⟩
    have h1 := h.1
    unfold TRel at h1 ⊢
    cases b with
    | true =>
      simp only [if_true] at h1 ⊢
      obtain ⟨ws, rfl, g⟩ := h1
      exact ⟨ws, rfl, All2.of_get (by rw [g.length, stls_length]) fun _ _ _ _ _ => trivial⟩
    | false =>
      simp only [Bool.false_eq_true, if_false] at h1 ⊢
      obtain ⟨c, rfl, g, _⟩ := h1
      exact ⟨stl s bk c, by simp [stls], g, trivial⟩
theorem stlSV_shape {s : St} {bk : List Key} {u : Value} {v : SV} (h : SVRel Tru u v) : SVRel Tru u (stlSV s bk v) := by
  cases v with
  | one c => exact ⟨h.1, trivial⟩
  | agg cs => obtain ⟨ws, h1, h2⟩ := h; exact ⟨ws, h1, All2.of_get (by rw [h2.length, stls_length]) fun _ _ _ _ _ => trivial⟩
  | tup vs => obtain ⟨ws, h1, h2⟩ := h; exact ⟨ws, h1, stlTup_shape s bk h2⟩
  | undef => trivial
theorem stl_own {s : St} {bk : List Key} {c : C} {e : Nat} {xs : List (List D)} (h : stl s bk c = .own e xs) : c = .own e xs := by
  cases c <;> simp only [stl] at h <;> first | exact h | (split at h <;> cases h) | cases h
theorem stl_d {s : St} {bk : List Key} {c : C} {d : D} (h : stl s bk c = .d d) : c = .d d := by
  cases c <;> simp only [stl] at h <;> first | exact h | (split at h <;> cases h) | cases h
theorem stl_alive {s : St} {bk : List Key} {c : C} (h : stl s bk c ≠ .dead) : c ≠ .dead := by rintro rfl; exact h rfl
section
variable {K : Ctx} {β : Key → Option Nat} {ω : Nat → Option Holder} {Z : Nat → Prop} {s : St} {a : Act} {w : World}
theorem Rel.fin (h : Rel K β ω Z s a w) (keys : List Nat) (bk : List Key) {n : Nat} (hn : n = K.argv.size) (hin : ∀ k b, K.β0 k = some b → k ∈ bk) : ∃ β', Rel K β' ω Z (fin s keys bk n).st a w := by
  generalize hs' : (Vs.fin s keys bk n).st = s'
  have ht : ∀ t, (s' (.tmp t)).v = if t ∈ keys then stlSV s bk (s (.tmp t)).v else .undef := fun t => by rw [← hs']; exact fin_tmp ..
  have hb : ∀ k, (s' (.box k)).v = if k ∈ bk then (match (s (.box k)).v with | .agg cs => .agg (stls s bk cs) | _ => .undef) else .undef := fun k => by rw [← hs']; exact fin_box ..
  have ha : ∀ i, (s' (.arg i)).v = if i < n then stlSV s bk (s (.arg i)).v else .undef := fun i => by rw [← hs']; exact fin_arg ..
  have hz : ∀ r, (s' r).hv = 0 ∧ (s' r).cv = 0 := fun r => by rw [← hs']; exact ps_hv _ r
  -- live cells
  have hcells : ∀ (r : Res) (j : Nat) (c : C), (s' r).v.cells[j]? = some c → (∃ c0, (s r).v.cells[j]? = some c0 ∧ c = stl s bk c0) ∧ (∀ k, r = .box k → k ∈ bk ∧ ∃ cs, (s r).v = .agg cs) := by
    intro r j c hc
    cases r with
    | tmp t =>
      rw [ht] at hc
      split at hc
      · rw [stlSV_cells, stls_get] at hc
        cases hc0 : (s (.tmp t)).v.cells[j]? with
        | none => rw [hc0] at hc; cases hc
        | some c0 => rw [hc0] at hc; simp only [Option.map_some, Option.some.injEq] at hc; exact ⟨⟨c0, rfl, hc.symm⟩, by simp⟩
      · simp [SV.cells] at hc
    | box k =>
      rw [hb] at hc
      split at hc
      · rename_i hk
        cases hv : (s (.box k)).v with
        | agg cs =>
          rw [hv] at hc
          simp only [SV.cells] at hc
          rw [stls_get] at hc
          cases hc0 : cs[j]? with
          | none => rw [hc0] at hc; cases hc
          | some c0 => rw [hc0] at hc; simp only [Option.map_some, Option.some.injEq] at hc; exact ⟨⟨c0, hc0, hc.symm⟩, fun k' e => by cases e; exact ⟨hk, cs, rfl⟩⟩
        | one c => rw [hv] at hc; simp [SV.cells] at hc
        | tup x => rw [hv] at hc; simp [SV.cells] at hc
        | undef => rw [hv] at hc; simp [SV.cells] at hc
      · simp [SV.cells] at hc
    | arg i =>
      rw [ha] at hc
      split at hc
      · rw [stlSV_cells, stls_get] at hc
        cases hc0 : (s (.arg i)).v.cells[j]? with
        | none => rw [hc0] at hc; cases hc
        | some c0 => rw [hc0] at hc; simp only [Option.map_some, Option.some.injEq] at hc; exact ⟨⟨c0, rfl, hc.symm⟩, by simp⟩
      · simp [SV.cells] at hc
  let β' : Key → Option Nat := fun k => match (s' (.box k)).v with | .agg _ => β k | _ => none
  have hβ' : ∀ k cs, (s' (.box k)).v = .agg cs → β' k = β k := fun k cs hk => by simp only [β', hk]
  have hβn : ∀ k, (s' (.box k)).v = .undef → β' k = none := fun k hk => by simp only [β', hk]
  have hβbk : ∀ k b, β k = some b → k ∈ bk → β' k = some b := by
    intro k b hkb hk
    have hbx := h.boxes k
    cases hv : (s (.box k)).v with
    | agg cs => rw [hβ' k (stls s bk cs) (by rw [hb, if_pos hk, hv])]; exact hkb
    | undef => rw [hv] at hbx; simp only [BoxRel] at hbx; rw [hbx] at hkb; cases hkb
    | one c => rw [hv] at hbx; exact hbx.elim
    | tup x => rw [hv] at hbx; exact hbx.elim
  have hat : ∀ (r : Res) (j : Nat), (s' r).at j ≠ .dead → (s r).at j ≠ .dead ∧ (∀ e ys, (s r).at j = .own e ys → (s' r).at j = .own e ys) ∧ (∀ d, (s r).at j = .d d → (s' r).at j = .d d) ∧ (∀ k, r = .box k → k ∈ bk ∧ ∃ cs, (s r).v = .agg cs) := by
    intro r j hal
    cases hc : (s' r).v.cells[j]? with
    | none => exact absurd (by simp [RV.at, List.getD_eq_getElem?_getD, hc]) hal
    | some c =>
      obtain ⟨⟨c0, h0, h1⟩, h2⟩ := hcells r j c hc
      have e0 := at_of_cells h0
      have e1 := at_of_cells hc
      rw [e1] at hal
      refine ⟨?_, fun e ys ho => ?_, fun d ho => ?_, h2⟩
      · rw [e0]
        rw [h1] at hal; exact stl_alive hal
      · rw [e1]; rw [e0] at ho; subst ho; rw [h1]; rfl
      · rw [e1]; rw [e0] at ho; subst ho; rw [h1]; rfl
  have hhdr : ∀ (r : Res) (j : Nat), (∀ k, r = .box k → k ∈ bk ∧ ∃ cs, (s r).v = .agg cs) → hdr K β' a w r j = hdr K β a w r j := by
    intro r j hr
    cases r with
    | tmp t => rfl
    | arg i => rfl
    | box k =>
      obtain ⟨hk, cs, hv⟩ := hr k rfl
      simp only [hdr]
      rw [hβ' k (stls s bk cs) (by rw [hb, if_pos hk, hv])]
  have hstl : ∀ (c : C) (u : Value), CRel K β Z s a w c u → CRel K β' Z s' a w (stl s bk c) u := by
    intro c u hcu
    cases c with
    | d x => exact hcu
    | own e xs => exact hcu
    | dead => trivial
    | da xs => exact hcu
    | ea r j hv e i off => trivial
    | ptr k off =>
      simp only [stl]
      split
      · rename_i hk
        obtain ⟨b, g1, g2⟩ := hcu
        exact ⟨b, hβbk k b g1 (by simpa using hk), g2⟩
      · trivial
    | clo f caps =>
      simp only [stl]
      split
      · rename_i hk
        obtain ⟨vs, g1, g2⟩ := hcu
        refine ⟨vs, g1, g2.mono_mem fun u p hp ⟨b, q1, q2⟩ => ⟨b, hβbk p.1 b q1 ?_, q2⟩⟩
        have := List.all_eq_true.1 hk p hp
        simpa using this
      · trivial
    | bor r j hv cv e k xs =>
      simp only [stl]
      split
      · rename_i hcur
        obtain ⟨ad', cap', g1, g2, g3, g4, g5, g6⟩ := hcu
        refine ⟨ad', cap', g1, g2, g3, by omega, by omega, fun _ hal => ?_⟩
        obtain ⟨q1, q2, q3, q4⟩ := hat r j hal
        obtain ⟨ad, len, cap, f1, f2, f3, f4, f4b, f5, f6, f7, ys, f8, f9⟩ := g6 hcur.1 q1
        refine ⟨ad, len, cap, by rw [hhdr r j q4]; exact f1, f2, f3, f4, f4b, f5, f6, f7, ys, ?_, fun _ => f9 hcur.2⟩
        rcases f8 with f8 | f8
        · exact .inl (q2 _ _ f8)
        · exact .inr (q3 _ f8)
      · trivial
  have hsv : ∀ (v : SV) (u : Value), SVRel (CRel K β Z s a w) u v → SVRel (CRel K β' Z s' a w) u (stlSV s bk v) := by
    intro v u hv
    refine SVRel.of_flat (stlSV_shape hv.shape) fun hu => ?_
    have hu' : v ≠ .undef := by rintro rfl; exact hu rfl
    have hf := hv.flat hu'
    rw [stlSV_cells]
    refine All2.of_get (by rw [hf.length, stls_length]) fun j x c hx hc => ?_
    rw [stls_get] at hc
    cases hc0 : v.cells[j]? with
    | none => rw [hc0] at hc; cases hc
    | some c0 =>
      rw [hc0] at hc
      simp only [Option.map_some, Option.some.injEq] at hc
      subst hc
      obtain ⟨x', g1, g2⟩ := hf.get hc0
      rw [hx] at g1
      cases g1
      exact hstl c0 x g2
  have hown : ∀ (r : Res) (j e : Nat) (xs : List (List D)), (s' r).v.cells[j]? = some (.own e xs) → (s r).v.cells[j]? = some (.own e xs) ∧ hdr K β' a w r j = hdr K β a w r j := by
    intro r j e xs hc
    obtain ⟨⟨c0, h0, h1⟩, h2⟩ := hcells r j _ hc
    have := stl_own h1.symm
    subst this
    exact ⟨h0, hhdr r j h2⟩
  refine ⟨β', h.size, h.defers, h.os, h.tape, h.output, h.base, h.frame, h.zin, h.zold, ?_, ?_, ?_, ?_, ?_, ?_, h.ωok, ?_⟩
  · intro b hb'
    rcases h.znew b hb' with g | g | g | ⟨i, j, e, ys, ad, len, cap, g1, g2, g3⟩
    · exact .inl g
    · exact .inr (.inl g)
    · exact .inr (.inr (.inl g))
    · refine .inr (.inr (.inr ⟨i, j, e, ys, ad, len, cap, ?_, g2, g3⟩))
      have hi : i < n := by
        rw [hn]
        by_cases hi : i < K.argv.size
        · exact hi
        · exfalso
          rw [Array.getD_eq_getD_getElem?, Array.getElem?_eq_none (by omega)] at g2
          simp [undef, flat] at g2
      rw [ha, if_pos hi, stlSV_cells, stls_get, g1]
      rfl
  · intro t
    rw [ht]
    split
    · exact hsv _ _ (h.tmps t)
    · trivial
  · intro i
    rw [ha]
    split
    · exact hsv _ _ (h.args i)
    · trivial
  · intro k
    rw [hb]
    by_cases hk : k ∈ bk
    · rw [if_pos hk]
      have hbx := h.boxes k
      cases hv : (s (.box k)).v with
      | agg cs =>
        obtain ⟨b, ws, el, lo, hi, g1, g2, g3, g4, g5⟩ := BoxRel.cell h hv
        refine ⟨b, ws, el, lo, hi, hβbk k b g1 hk, g2, g3, g4, All2.of_get (by rw [g5.length, stls_length]) fun j u c hu hc => ?_⟩
        rw [stls_get] at hc
        cases hc0 : cs[j]? with
        | none => rw [hc0] at hc; cases hc
        | some c0 =>
          rw [hc0] at hc
          simp only [Option.map_some, Option.some.injEq] at hc
          subst hc
          obtain ⟨u', q1, q2⟩ := g5.get hc0
          rw [hu] at q1
          cases q1
          exact hstl c0 u q2
      | undef => exact hβn k (by rw [hb, if_pos hk, hv])
      | one c => rw [hv] at hbx; exact hbx.elim
      | tup x => rw [hv] at hbx; exact hbx.elim
    · rw [if_neg hk]
      exact hβn k (by rw [hb, if_neg hk])
  · intro r j e xs ad len cap hr hc hh
    obtain ⟨g1, g2⟩ := hown r j e xs hc
    rw [g2] at hh
    exact h.own r j e xs ad len cap hr g1 hh
  · intro i j e xs ad len cap hc hh
    exact h.argown i j e xs ad len cap (hown (.arg i) j e xs hc).1 hh
  · intro k b hb'
    exact hβbk k b (h.βold k b hb') (hin k b hb')
end
end Go.Vs
/- What holds of the abstract code holds of the code. -/
namespace Go.Vs
def exOf : Ex → Exit
  | .normal => .normal
  | .exit i => .exit i
  | .ret => .ret
def PRel (K : Ctx) (p : PS) (a : Act) (w : World) : Prop := Good K p.st a w ∧ p.args.length = K.argv.size
def Post (K : Ctx) (Q : Ex → PS → Prop) (e : Exit) (a : Act) (w : World) : Prop := ∃ x p, e = exOf x ∧ Q x p ∧ PRel K p a w
def KeyOK (K : Ctx) (F : VF) : Prop := ∀ k b, K.β0 k = some b → k.isIn = true ∧ k ∈ F.bkeys
section
variable {K : Ctx} {F : VF}
theorem PRel.fin {p : PS} {s : St} {a : Act} {w : World} (hl : p.args.length = K.argv.size) (hg : Good K s a w) {keys : List Nat} {bk : List Key} (hin : ∀ k b, K.β0 k = some b → k ∈ bk) : PRel K (fin s keys bk p.args.length) a w := by
  obtain ⟨β, ω, Z, h⟩ := hg
  obtain ⟨β', h'⟩ := h.fin keys bk hl hin
  refine ⟨⟨β', ω, Z, h'⟩, ?_⟩
  rw [← hl]
  exact finArgs_length ..
theorem PRel.forget (hk : KeyOK K F) {p : PS} {a : Act} {w : World} (h : PRel K p a w) {live : List Nat} {bl : List Key} (hb : keepsIn F.bkeys bl = true) : PRel K (forget live bl p) a w := by
  refine PRel.fin h.2 h.1 fun k b hkb => ?_
  obtain ⟨h1, h2⟩ := hk k b hkb
  have := List.all_eq_true.1 hb k h2
  simpa [h1] using this
theorem awp_sound (hC : COK K.P F.cfg) (hN : K.N = F.cfg.N) (hmix : K.P.follows .mixedOrders = true) (hk : KeyOK K F) : ∀ (c : Code) (p : PS) (Q : Ex → PS → Prop) (a : Act) (w : World), awp F c p Q → PRel K p a w → c.wp K.P (Post K Q) a w := by
  intro c
  induction c with
  | skip => intro p Q a w h hp; exact wp_skip ⟨.normal, p, rfl, by simpa only [awp] using h, hp⟩
  | exit id => intro p Q a w h hp; exact wp_exit ⟨.exit id, p, rfl, by simpa only [awp] using h, hp⟩
  | ret => intro p Q a w h hp; exact wp_ret ⟨.ret, p, rfl, by simpa only [awp] using h, hp⟩
  | region id ops draw =>
    intro p Q a w h hp
    cases draw with
    | false =>
      simp only [awp] at h
      cases hr : runOps F.cfg ops ops.toList p.st with
      | none => rw [hr] at h; exact h.elim
      | some s =>
        rw [hr] at h
        exact region_sim hC hN hmix hr (by simp) hp.1 fun a' w' hg => ⟨.normal, _, rfl, h, PRel.fin hp.2 hg fun k b hb => (hk k b hb).2⟩
    | true =>
      simp only [awp] at h
      cases hr : runBoth F.cfg ops ops.toList p.st with
      | none => rw [hr] at h; exact h.elim
      | some x =>
        obtain ⟨s, fps⟩ := x
        rw [hr] at h
        obtain ⟨h1, h2⟩ := h
        obtain ⟨e1, e2⟩ := runBoth_spec F.cfg ops _ _ _ _ hr
        simp only [drawOk, Bool.and_eq_true] at h1
        refine region_sim hC hN hmix e1 (fun _ => ⟨?_, h1.1⟩) hp.1 fun a' w' hg => ⟨.normal, _, rfl, h2, PRel.fin hp.2 hg fun k b hb => (hk k b hb).2⟩
        unfold orderOk
        rw [e2]
        exact h1.2
  | seq x y ihx ihy =>
    intro p Q a w h hp
    simp only [awp] at h
    refine wp_seq (wp_mono (ihx p _ a w h hp) ?_)
    rintro e a' w' ⟨ex, p', rfl, hq, hp'⟩
    cases ex with
    | normal => exact ihy p' Q a' w' hq hp'
    | exit i => exact ⟨_, p', rfl, hq, hp'⟩
    | ret => exact ⟨_, p', rfl, hq, hp'⟩
  | cond c x y ihx ihy =>
    intro p Q a w h hp
    simp only [awp] at h
    have hc : ∀ b, condVal c p = some b → a.eval c = .bool b := by
      intro b hb
      unfold condVal at hb
      split at hb
      · rename_i t
        split at hb
        · rename_i b' hl
          cases hb
          obtain ⟨β, ω, Z, hr⟩ := hp.1
          have := hr.tmps t
          simp only [PS.st, hl, Option.getD_some] at this
          have h2 := this.2
          simp only [CRel, DRel] at h2
          exact h2
        · cases hb
      · cases hb; rfl
      · cases hb
    cases hv : condVal c p with
    | none => rw [hv] at h; exact h.elim
    | some b =>
      rw [hv] at h
      exact wp_cond_split (hc b hv) (fun hb => ihx p Q a w (h.1 hb) hp) (fun hb => ihy p Q a w (h.2 hb) hp)
  | block id b ih =>
    intro p Q a w h hp
    simp only [awp] at h
    refine wp_block (wp_mono (ih p _ a w h hp) ?_)
    rintro e a' w' ⟨ex, p', rfl, hq, hp'⟩
    cases ex with
    | normal => exact ⟨.normal, p', rfl, hq, hp'⟩
    | exit i =>
      simp only [exOf, Exit.inBlock]
      simp only at hq
      by_cases hi : i = id
      · rw [if_pos hi] at hq ⊢; exact ⟨.normal, p', rfl, hq, hp'⟩
      · rw [if_neg hi] at hq ⊢; exact ⟨.exit i, p', rfl, hq, hp'⟩
    | ret => exact ⟨.ret, p', rfl, hq, hp'⟩
  | loop b ih =>
    intro p Q a w h hp
    obtain ⟨live, bl, I, μ, hb, h0, hstep⟩ : ∃ (live : List Nat) (bl : List Key) (I : PS → Prop) (μ : PS → Nat), keepsIn F.bkeys bl = true ∧ I (forget live bl p) ∧ ∀ q, I q → awp F b q fun e q' => match e with
      | .normal => I (forget live bl q') ∧ μ (forget live bl q') < μ q
      | e => Q e q' := h
    intro fb k cs
    have key : ∀ n q a w, μ q = n → I q → PRel K q a w →
        ∃ e a' w', Post K Q e a' w' ∧ Arrives K.P (lone (fb.at a (.code b :: .inLoop b :: k)) cs w) fb k cs e a' w' := by
      intro n
      induction n using Nat.strongRecOn with
      | _ n ihn =>
        intro q a w hn hI hq
        obtain ⟨e, a₁, w₁, ⟨ex, p', rfl, hQ, hp'⟩, harr⟩ := ih q _ a w (hstep q hI) hq fb (.inLoop b :: k) cs
        cases ex with
        | normal =>
          obtain ⟨hI₁, hlt⟩ := hQ
          obtain ⟨e₂, a₂, w₂, hq₂, harr₂⟩ := ihn _ (hn ▸ hlt) _ a₁ w₁ rfl hI₁ (hp'.forget hk hb)
          exact ⟨e₂, a₂, w₂, hq₂, .of_steps (Steps.trans harr (.one step_inLoop)) harr₂⟩
        | exit id => exact ⟨_, a₁, w₁, ⟨_, p', rfl, hQ, hp'⟩, .pass (x := .inLoop b) rfl (fun _ _ => .inl (by simp [exOf])) harr⟩
        | ret => exact ⟨_, a₁, w₁, ⟨_, p', rfl, hQ, hp'⟩, .pass (x := .inLoop b) rfl (fun _ _ => .inl (by simp [exOf])) harr⟩
    obtain ⟨e, a', w', hq, harr⟩ := key _ _ a w rfl h0 (hp.forget hk hb)
    exact ⟨e, a', w', hq, .of_steps (.one step_loop) harr⟩
  | scope b ih =>
    intro p Q a w h hp
    simp only [awp] at h
    refine wp_scope_straight (wp_mono (ih p Q a w h hp) ?_)
    rintro e a' w' ⟨ex, p', rfl, hq, hp'⟩
    cases ex <;> exact ⟨_, p', rfl, hq, hp'⟩
  | _ => intro p Q a w h hp; simp only [awp] at h
end
end Go.Vs
/- A function: what its code gives is what its contract says. -/
namespace Go.Vs
/-! ## What is handed back -/
def readR (cfg : Cfg) : ResultVar → Prog SV
  | .tmp t => ev (.tmp t)
  | .cell a t => match cfg.ti t with
    | some i => do loadP i (← ev1 (.tmp a))
    | none => .fail
def readRs (cfg : Cfg) : List ResultVar → Prog (List SV)
  | [] => .ret []
  | r :: rs => do let v ← readR cfg r; let vs ← readRs cfg rs; .ret (v :: vs)
def argC : C → Prog C
  | .bor (.arg i) j hv cv e k xs => do let x ← toD (.bor (.arg i) j hv cv e k xs); .ret (.d x)
  | c => .ret c
def argCs : List C → Prog (List C)
  | [] => .ret []
  | c :: cs => do let c' ← argC c; let r ← argCs cs; .ret (c' :: r)
def argSV : SV → Prog SV
  | .one c => do .ret (.one (← argC c))
  | .agg cs => do .ret (.agg (← argCs cs))
  | _ => .fail
def argSVs : List SV → Prog (List SV)
  | [] => .ret []
  | v :: vs => do let v' ← argSV v; let r ← argSVs vs; .ret (v' :: r)
def easy : C → Bool
  | .d _ | .own _ _ | .ptr _ _ => true
  | _ => false
def settle (k : Key) : Prog Unit :=
  .get (.box k) fun x => match x.v with
    | .agg cs => if cs.all easy = true then .ret () else do
      let cs' ← argCs cs
      putR (.box k) { hv := x.hv + 1, cv := x.cv, v := .agg cs' }
    | _ => .fail
def settles : List Key → Prog Unit
  | [] => .ret ()
  | k :: ks => do settle k; settles ks
def outV : List SV → SV
  | [v] => v
  | vs => .tup (vs.map fun v => match v with | .one c => (false, [c]) | .agg cs => (true, cs) | _ => (false, []))
def combV : List Value → Value
  | [u] => u
  | us => .tuple us.toArray
def outTake (d : Bool) : Res → Bool
  | .tmp _ => !d
  | .box (.inb _) => false
  | .box _ => !d
  | .arg _ => false
def outC (ks : List Key) : C → Prog C
  | .d x => .ret (.d x)
  | .own e xs => .ret (.own e xs)
  | .ptr k off => do need (k ∈ ks); .ret (.ptr (.inb (idx k ks)) off)
  | .clo f caps => do need (caps = []); .ret (.clo f [])
  | _ => .fail
def outCs (ks : List Key) : List C → Prog (List C)
  | [] => .ret []
  | c :: cs => do let c' ← outC ks c; let r ← outCs ks cs; .ret (c' :: r)
def outTup (ks : List Key) : List (Bool × List C) → Prog (List (Bool × List C))
  | [] => .ret []
  | (b, cs) :: vs => do let cs' ← outCs ks cs; let r ← outTup ks vs; .ret ((b, cs') :: r)
def outSV (ks : List Key) : SV → Prog SV
  | .one c => do .ret (.one (← outC ks c))
  | .agg cs => do .ret (.agg (← outCs ks cs))
  | .tup vs => do .ret (.tup (← outTup ks vs))
  | .undef => .fail
def inbs (n : Nat) : List Key := (List.range n).map .inb
def outKeys (nb : Nat) (cs : List C) : List Key := inbs nb ++ (dedup (keysOf cs)).filter fun k => !k.isIn
def exitP (cfg : Cfg) (res : List ResultVar) (nb : Nat) : Prog (SV × List (List C)) := do
  let vs ← readRs cfg res
  let ks := outKeys nb (vs.flatMap SV.cells)
  settles ks
  let vs1 ← argSVs vs
  let v2 ← stashSV (.tmp 0) (outTake cfg.outd) (outV vs1)
  let bs ← getBoxes ks ks
  let v3 ← outSV ks v2
  .ret (v3, bs)
/-! ## How a function begins -/
def startSV (i : Nat) (v : SV) : SV := RV.copy { v } (.arg i)
def startSlots : Nat → List SV → List (Nat × SV)
  | _, [] => []
  | i, v :: vs => (i, startSV i v) :: startSlots (i + 1) vs
def startBoxes : Nat → List (List C) → List (Key × List C)
  | _, [] => []
  | i, b :: bs => (.inb i, b) :: startBoxes (i + 1) bs
def startPS (args : List SV) (boxes : List (List C)) : PS := { slots := startSlots 0 args, boxes := startBoxes 0 boxes, args }
/-- at the end: what is handed back is what the contract says -/
def Ends (cfg : Cfg) (res : List ResultVar) (args : List SV) (nb : Nat) (r : CallRes) (e : Ex) (p : PS) : Prop :=
  (e = .normal ∨ e = .ret) ∧ match (exitP cfg res nb).exec p.st with
    | some ((v, bs), s) => v = r.v ∧ bs = r.boxes ∧ ∀ i, i < args.length → (s (.arg i)).v = (frzArgs r.frz args).getD i .undef
    | none => False
section
variable {K : Ctx} {β : Key → Option Nat} {ω : Nat → Option Holder} {Z : Nat → Prop} {s : St} {a : Act} {w : World} {cfg : Cfg}
/-! ### results are read -/
def slotVal (a : Act) : ResultVar → Sem Value
  | .tmp t => pure (a.tmps.getD t undef)
  | .cell b t => do loadVar t (← asAddr (a.tmps.getD b undef))
theorem readR_spec (hT : Tabs K.P cfg) (h : Rel K β ω Z s a w) {r : ResultVar} {v : SV} {s' : St} (he : (readR cfg r).exec s = some (v, s')) :
    s' = s ∧ ∃ u, (slotVal a r).run K.P w = .ok u w ∧ SVRel (CRel K β Z s a w) u v ∧ (∀ c ∈ v.cells, NoOwn c) := by
  cases r with
  | tmp t =>
    simp only [readR] at he
    obtain ⟨hs, h1, h2, h3⟩ := ev_spec h he
    exact ⟨hs, _, rfl, h1, h2⟩
  | cell b t =>
    simp only [readR] at he
    split at he
    · rename_i i hi
      obtain ⟨c, s1, h1, he2⟩ := exec_bind' he
      obtain ⟨hs1, ho, hc, hno⟩ := ev1_spec h h1
      subst hs1
      obtain ⟨hs2, x, g1, g2, g3⟩ := load_spec h (hT.T t i hi) hc he2
      refine ⟨hs2, x, ?_, g2, g3⟩
      have hp : ∃ ad, a.tmps.getD b undef = .pointer (some ad) := by
        have hc' : CRel K β Z s1 a w c (a.tmps.getD b undef) := hc
        unfold loadP at he2
        split at he2
        · obtain ⟨b', _, g⟩ := hc'; exact ⟨_, g⟩
        · obtain ⟨b', o', g, _⟩ := hc'; exact ⟨_, g⟩
        · obtain ⟨b', o', g, _⟩ := hc'; exact ⟨_, g⟩
        · simp [Prog.exec] at he2
      obtain ⟨ad, had⟩ := hp
      have g1' : (Instr.loadAt t (a.tmps.getD b undef)).run K.P w = .ok x w := g1
      simp only [slotVal]
      rw [had] at g1' ⊢
      simpa [Instr.loadAt, Instr.sureAddr, asAddr] using g1'
    · simp [Prog.exec] at he
theorem run_listMapM {α : Type} {P : Program} {w : World} (f : α → Sem Value) : ∀ (l : List α) (us : List Value), All2 (fun x u => (f x).run P w = .ok u w) l us → (l.mapM f).run P w = .ok us w
  | [], [], _ => rfl
  | x :: l, u :: us, h => by
    have h1 := h.1
    have h2 := run_listMapM f l us h.2
    simp [List.mapM_cons, h1, h2]
theorem readRs_spec (hT : Tabs K.P cfg) (h : Rel K β ω Z s a w) : ∀ (rs : List ResultVar) (vs : List SV) (s' : St), (readRs cfg rs).exec s = some (vs, s') →
    s' = s ∧ ∃ us, All2 (fun r u => (slotVal a r).run K.P w = .ok u w) rs us ∧ All2 (fun u v => SVRel (CRel K β Z s a w) u v ∧ (∀ c ∈ v.cells, NoOwn c)) us vs := by
  intro rs
  induction rs with
  | nil =>
    intro vs s' he
    obtain ⟨rfl, rfl⟩ := exec_ret he
    exact ⟨rfl, [], trivial, trivial⟩
  | cons r rs ih =>
    intro vs s' he
    simp only [readRs] at he
    obtain ⟨v1, s1, h1, he1⟩ := exec_bind' he
    obtain ⟨vs1, s2, h2, he2⟩ := exec_bind' he1
    obtain ⟨rfl, rfl⟩ := exec_ret he2
    obtain ⟨rfl, u, g1, g2⟩ := readR_spec hT h h1
    obtain ⟨rfl, us, g3, g4⟩ := ih _ _ h2
    exact ⟨rfl, u :: us, ⟨g1, g3⟩, ⟨g2, g4⟩⟩
theorem results_run {fn : Func} {us : List Value} (h : All2 (fun r u => (slotVal a r).run K.P w = .ok u w) fn.results.toList us) : (results fn a.tmps).run K.P w = .ok (combV us) w := by
  have h1 := run_listMapM (P := K.P) (w := w) (slotVal a) _ us h
  have h2 : results fn a.tmps = (do let vs ← fn.results.mapM (slotVal a); pure (if h : vs.size = 1 then vs[0] else .tuple vs)) := by
    unfold results
    congr 1
  rw [h2, Array.mapM_eq_mapM_toList]
  simp only [map_eq_pure_bind, bind_assoc, pure_bind]
  have : ∀ (v : Value), combV us = v → (List.mapM (slotVal a) fn.results.toList >>= fun a => (pure (if h : a.toArray.size = 1 then a.toArray[0] else Value.tuple a.toArray) : Sem Value)).run K.P w = .ok v w := by
    intro v hv
    simp only [Sem.run_bind, h1]
    simp
    subst hv
    match us with
    | [] => rfl
    | [u] => rfl
    | u :: u' :: us => simp [combV]
  exact this _ rfl
/-! ### what is borrowed of an argument becomes data -/
def CB (K : Ctx) (β : Key → Option Nat) (Z : Nat → Prop) (s : St) (a : Act) (w : World) (u : Value) (c : C) : Prop :=
  CRel K β Z s a w c u ∧ ∀ (e : Nat) (xs : List (List D)) (ad : Addr) (len cap : Nat), c = .own e xs → u = .slice (some ad) len cap → ad.block < w.heap.size
theorem CB.lift {ω' : Nat → Option Holder} {Z' : Nat → Prop} {s' : St} (hr : Rel K β ω Z s a w) (k : Calm K β a ω Z s w ω' Z' s' w) {u : Value} {c : C} (h : CB K β Z s a w u c) : CB K β Z' s' a w u c :=
  ⟨k.crel hr.zin h.2 h.1, h.2⟩
theorem freezeAt_arg {i j : Nat} {x : RV} {y : Unit} {s s' : St} (he : (freezeAt (.arg i) j x).exec s = some (y, s')) : ∀ k, s' (.box k) = s (.box k) := by
  intro k
  unfold freezeAt at he
  split at he
  · simp only [putR, Prog.exec, Option.some.injEq, Prod.mk.injEq] at he
    obtain ⟨_, rfl⟩ := he
    simp [St.set]
  · obtain ⟨_, rfl⟩ := exec_ret he; rfl
  · simp [Prog.exec] at he
theorem argC_spec (h : Rel K β ω Z s a w) {c c' : C} {u : Value} {s' : St} (hcu : CB K β Z s a w u c) (he : (argC c).exec s = some (c', s')) :
    (∃ ω' Z', Rel K β ω' Z' s' a w ∧ Calm K β a ω Z s w ω' Z' s' w ∧ CB K β Z' s' a w u c') ∧ (∀ (e : Nat) (xs : List (List D)), c' = C.own e xs → c = C.own e xs) ∧ (∀ k, s' (.box k) = s (.box k)) := by
  unfold argC at he
  split at he
  · rename_i i j hv cv e k xs
    obtain ⟨x, s1, h1, he2⟩ := exec_bind' he
    obtain ⟨rfl, rfl⟩ := exec_ret he2
    obtain ⟨ω', Z', r1, k1, d1⟩ := toD_spec h hcu.1 h1
    refine ⟨⟨ω', Z', r1, k1, d1, by simp⟩, by simp, ?_⟩
    simp only [toD, Prog.exec] at h1
    obtain ⟨_, s2, g1, h1⟩ := exec_bind' h1
    obtain ⟨_, rfl⟩ := exec_need g1
    obtain ⟨_, s3, g2, h1⟩ := exec_bind' h1
    obtain ⟨_, rfl⟩ := exec_ret h1
    exact freezeAt_arg g2
  · obtain ⟨rfl, rfl⟩ := exec_ret he
    exact ⟨⟨ω, Z, h, Calm.refl, hcu⟩, fun _ _ h => h, fun _ => rfl⟩
theorem argCs_spec : ∀ (cs : List C) (us : List Value) (ω : Nat → Option Holder) (Z : Nat → Prop) (s s' : St) (cs' : List C), Rel K β ω Z s a w → All2 (CB K β Z s a w) us cs → (argCs cs).exec s = some (cs', s') →
    (∃ ω' Z', Rel K β ω' Z' s' a w ∧ Calm K β a ω Z s w ω' Z' s' w ∧ All2 (CB K β Z' s' a w) us cs') ∧ (∀ (j e : Nat) (xs : List (List D)), cs'[j]? = some (C.own e xs) → cs[j]? = some (C.own e xs)) ∧ (∀ k, s' (.box k) = s (.box k)) := by
  intro cs
  induction cs with
  | nil =>
    intro us ω Z s s' cs' h hall he
    obtain ⟨rfl, rfl⟩ := exec_ret he
    exact ⟨⟨ω, Z, h, Calm.refl, hall⟩, fun _ _ _ h => h, fun _ => rfl⟩
  | cons c cs ih =>
    intro us ω Z s s' cs' h hall he
    cases us with
    | nil => exact hall.elim
    | cons u us =>
      simp only [argCs] at he
      obtain ⟨c1, s1, h1, he1⟩ := exec_bind' he
      obtain ⟨cs1, s2, h2, he2⟩ := exec_bind' he1
      obtain ⟨rfl, rfl⟩ := exec_ret he2
      obtain ⟨⟨ω1, Z1, r1, k1, p1⟩, q1, b1⟩ := argC_spec h hall.1 h1
      obtain ⟨⟨ω2, Z2, r2, k2, p2⟩, q2, b2⟩ := ih us ω1 Z1 s1 _ cs1 r1 (All2.mono (fun _ _ hh => hh.lift h k1) hall.2) h2
      refine ⟨⟨ω2, Z2, r2, k1.trans k2, p1.lift r1 k2, p2⟩, ?_, fun k => (b2 k).trans (b1 k)⟩
      intro j e xs hj
      cases j with
      | zero => simp only [List.getElem?_cons_zero, Option.some.injEq] at hj ⊢; exact q1 e xs hj
      | succ j => simp only [List.getElem?_cons_succ] at hj ⊢; exact q2 j e xs hj
def VR (K : Ctx) (β : Key → Option Nat) (Z : Nat → Prop) (s : St) (a : Act) (w : World) (u : Value) (v : SV) : Prop := SVRel (CRel K β Z s a w) u v ∧ (∀ c ∈ v.cells, NoOwn c)
theorem VR.lift {ω' : Nat → Option Holder} {Z' : Nat → Prop} {s' : St} {w' : World} (hr : Rel K β ω Z s a w) (k : Calm K β a ω Z s w ω' Z' s' w') {u : Value} {v : SV} (h : VR K β Z s a w u v) : VR K β Z' s' a w' u v :=
  ⟨SVRel.mono (fun c _ hc hcu => k.crel hr.zin (fun e xs _ _ _ hx _ => absurd hx (h.2 c hc e xs)) hcu) h.1, h.2⟩
def okOut : SV → Prop
  | .one _ | .agg _ => True
  | _ => False
theorem argSV_spec (h : Rel K β ω Z s a w) {v v' : SV} {u : Value} {s' : St} (hv : VR K β Z s a w u v) (he : (argSV v).exec s = some (v', s')) :
    ∃ ω' Z', Rel K β ω' Z' s' a w ∧ Calm K β a ω Z s w ω' Z' s' w ∧ VR K β Z' s' a w u v' ∧ okOut v' := by
  cases v with
  | one c =>
    simp only [argSV] at he
    obtain ⟨c1, s1, h1, he2⟩ := exec_bind' he
    obtain ⟨rfl, rfl⟩ := exec_ret he2
    have hno := hv.2 c (by simp [SV.cells])
    obtain ⟨⟨ω1, Z1, r1, k1, p1⟩, q1, _⟩ := argC_spec h ⟨hv.1.2, fun e xs _ _ _ hx _ => absurd hx (hno e xs)⟩ h1
    exact ⟨ω1, Z1, r1, k1, ⟨⟨hv.1.1, p1.1⟩, by intro x hx; simp only [SV.cells, List.mem_singleton] at hx; subst hx; exact fun e xs hx => hno e xs (q1 e xs hx)⟩, trivial⟩
  | agg cs =>
    simp only [argSV] at he
    obtain ⟨c1, s1, h1, he2⟩ := exec_bind' he
    obtain ⟨rfl, rfl⟩ := exec_ret he2
    obtain ⟨ws, hu, hall⟩ := hv.1
    obtain ⟨⟨ω1, Z1, r1, k1, p1⟩, q1, _⟩ := argCs_spec cs ws.toList ω Z s _ _ h (hall.mono_mem fun u c hc hr => ⟨hr, fun e xs _ _ _ hx _ => absurd hx (hv.2 c hc e xs)⟩) h1
    refine ⟨ω1, Z1, r1, k1, ⟨⟨ws, hu, All2.mono (fun _ _ hh => hh.1) p1⟩, ?_⟩, trivial⟩
    intro c hc e xs hx
    obtain ⟨j, hj⟩ := List.getElem?_of_mem hc
    subst hx
    exact hv.2 _ (List.mem_of_getElem? (q1 j e xs hj)) e xs rfl
  | tup x => simp [argSV, Prog.exec] at he
  | undef => simp [argSV, Prog.exec] at he
theorem argSVs_spec : ∀ (vs : List SV) (us : List Value) (ω : Nat → Option Holder) (Z : Nat → Prop) (s s' : St) (vs' : List SV), Rel K β ω Z s a w → All2 (VR K β Z s a w) us vs → (argSVs vs).exec s = some (vs', s') →
    ∃ ω' Z', Rel K β ω' Z' s' a w ∧ Calm K β a ω Z s w ω' Z' s' w ∧ All2 (fun u v => VR K β Z' s' a w u v ∧ okOut v) us vs' := by
  intro vs
  induction vs with
  | nil =>
    intro us ω Z s s' vs' h hall he
    obtain ⟨rfl, rfl⟩ := exec_ret he
    cases us with
    | nil => exact ⟨ω, Z, h, Calm.refl, trivial⟩
    | cons u us => exact hall.elim
  | cons v vs ih =>
    intro us ω Z s s' vs' h hall he
    cases us with
    | nil => exact hall.elim
    | cons u us =>
      simp only [argSVs] at he
      obtain ⟨v1, s1, h1, he1⟩ := exec_bind' he
      obtain ⟨vs1, s2, h2, he2⟩ := exec_bind' he1
      obtain ⟨rfl, rfl⟩ := exec_ret he2
      obtain ⟨ω1, Z1, r1, k1, p1, o1⟩ := argSV_spec h hall.1 h1
      obtain ⟨ω2, Z2, r2, k2, p2⟩ := ih us ω1 Z1 s1 _ vs1 r1 (All2.mono (fun _ _ hr => VR.lift h k1 hr) hall.2) h2
      exact ⟨ω2, Z2, r2, k1.trans k2, ⟨VR.lift r1 k2 p1, o1⟩, p2⟩
theorem outV_rel {us : List Value} {vs : List SV} (h : All2 (fun u v => VR K β Z s a w u v ∧ okOut v) us vs) : VR K β Z s a w (combV us) (outV vs) := by
  have gen : ∀ {us : List Value} {vs : List SV}, All2 (fun u v => VR K β Z s a w u v ∧ okOut v) us vs →
      All2 (TRel (CRel K β Z s a w)) us (vs.map fun v => match v with | .one c => (false, [c]) | .agg cs => (true, cs) | _ => (false, [])) ∧
      ∀ c ∈ (vs.map fun v => match v with | .one c => (false, [c]) | .agg cs => (true, cs) | _ => (false, ([] : List C))).flatMap (·.2), NoOwn c := by
    intro us vs
    induction vs generalizing us with
    | nil => intro h; cases us with | nil => exact ⟨trivial, by simp⟩ | cons => exact h.elim
    | cons v vs ih =>
      intro h
      cases us with
      | nil => exact h.elim
      | cons u us =>
        obtain ⟨⟨⟨h1, h2⟩, h3⟩, h4⟩ := h
        obtain ⟨g1, g2⟩ := ih h4
        cases v with
        | one c =>
          refine ⟨⟨?_, g1⟩, ?_⟩
          · simp only [TRel, Bool.false_eq_true, if_false]; exact ⟨c, rfl, h1.1, h1.2⟩
          · intro x hx
            simp only [List.map_cons, List.flatMap_cons, List.mem_append] at hx
            rcases hx with hx | hx
            · exact h2 x (by simpa [SV.cells] using hx)
            · exact g2 x hx
        | agg cs =>
          refine ⟨⟨?_, g1⟩, ?_⟩
          · simp only [TRel, if_true]; exact h1
          · intro x hx
            simp only [List.map_cons, List.flatMap_cons, List.mem_append] at hx
            rcases hx with hx | hx
            · exact h2 x (by simpa [SV.cells] using hx)
            · exact g2 x hx
        | tup x => exact h3.elim
        | undef => exact h3.elim
  match us, vs, h with
  | [u], [v], h => exact h.1.1
  | [], [], h => exact ⟨⟨#[], rfl, trivial⟩, by simp [outV, SV.cells]⟩
  | u :: u' :: us, v :: v' :: vs, h =>
    obtain ⟨g1, g2⟩ := gen h
    exact ⟨⟨_, rfl, by simpa [combV] using g1⟩, g2⟩
  | [u], [], h => exact h.elim
  | [], [v], h => exact h.elim
  | [u], v :: v' :: vs, h => exact h.2.elim
  | u :: u' :: us, [v], h => exact h.2.elim
  | u :: u' :: us, [], h => exact h.elim
  | [], v :: v' :: vs, h => exact h.elim
/-! ### boxes are settled -/
theorem settle_spec (h : Rel K β ω Z s a w) {k : Key} {y : Unit} {s' : St} (he : (settle k).exec s = some (y, s')) {us : List Value} {vs : List SV} (hv : All2 (VR K β Z s a w) us vs) :
    ∃ ω' Z', Rel K β ω' Z' s' a w ∧ All2 (VR K β Z' s' a w) us vs := by
  unfold settle at he
  simp only [Prog.exec] at he
  split at he
  · rename_i cs hcs
    split at he
    · obtain ⟨_, rfl⟩ := exec_ret he; exact ⟨ω, Z, h, hv⟩
    · obtain ⟨cs', s1, h1, he⟩ := exec_bind' he
      simp only [putR, Prog.exec, Option.some.injEq, Prod.mk.injEq] at he
      obtain ⟨_, rfl⟩ := he
      obtain ⟨b, ws, el, lo, hi, g1, g2, g3, g4, g5⟩ := BoxRel.cell h hcs
      have hall : All2 (CB K β Z s a w) ws.toList cs := All2.of_get g5.length fun j u c hu hc => by
        obtain ⟨u', q1, q2⟩ := g5.get hc
        rw [hu] at q1; cases q1
        refine ⟨q2, fun e xs ad len cap e1 e2 => ?_⟩
        subst e1; subst e2
        have := (h.own (.box k) j e xs ad len cap rfl (by rw [hcs]; exact hc) (by rw [hdr_box g1 g3]; exact hu)).1
        exact (h.ωok _ _ this).2.1
      obtain ⟨⟨ω1, Z1, r1, k1, p1⟩, q1, b1⟩ := argCs_spec cs ws.toList ω Z s s1 cs' h hall h1
      obtain ⟨b2, ws2, el2, lo2, hi2, f1, f2, f3, f4, f5⟩ := BoxRel.cell r1 (by rw [b1]; exact hcs)
      rw [g1] at f1; cases f1
      rw [g3] at f3; cases f3
      obtain ⟨t1, t2⟩ := r1.setBox (k := k) (b := b) (w' := w) (cs := cs') f2 (.inr g1) rfl rfl rfl rfl (fun _ _ => rfl) g3 g4 (All2.mono (fun _ _ hh => hh.1) p1) (fun j e xs ad len cap hc hu =>
        r1.own (.box k) j e xs ad len cap rfl (by rw [b1, hcs]; exact q1 j e xs hc) (by rw [hdr_box g1 g3]; exact hu))
      have hβ : (fun k' => if k' = k then some b else β k') = β := by
        funext k'
        by_cases e : k' = k
        · subst e; simp [g1]
        · simp [e]
      rw [hβ, b1] at t1 t2
      refine ⟨ω1, Z1, t1, All2.mono (fun u v hh => ?_) hv⟩
      have hh' := hh.lift h k1
      exact ⟨SVRel.mono (fun c u hc hr => t2 c u (fun e xs _ _ _ hx _ => absurd hx (hh.2 c hc e xs)) hr) hh'.1, hh'.2⟩
  · simp [Prog.exec] at he
theorem settles_spec : ∀ (ks : List Key) (ω : Nat → Option Holder) (Z : Nat → Prop) (s s' : St) (y : Unit), Rel K β ω Z s a w → (settles ks).exec s = some (y, s') → ∀ {us : List Value} {vs : List SV}, All2 (VR K β Z s a w) us vs →
    ∃ ω' Z', Rel K β ω' Z' s' a w ∧ All2 (VR K β Z' s' a w) us vs
  | [], ω, Z, s, s', y, h, he, us, vs, hv => by obtain ⟨_, rfl⟩ := exec_ret he; exact ⟨ω, Z, h, hv⟩
  | k :: ks, ω, Z, s, s', y, h, he, us, vs, hv => by
    simp only [settles] at he
    obtain ⟨_, s1, h1, he⟩ := exec_bind' he
    obtain ⟨ω1, Z1, r1, v1⟩ := settle_spec h h1 hv
    exact settles_spec ks ω1 Z1 s1 s' _ r1 he v1
/-! ### the value goes out -/
def OC (ks : List Key) (c c' : C) : Prop :=
  (∀ (K K' : Ctx) (β : Key → Option Nat) (Z : Nat → Prop) (s s' : St) (a a' : Act) (w : World) (u : Value), CRel K β Z s a w c u → CRel K' (idxβ ks β) Z s' a' w c' u) ∧ (∀ (e : Nat) (xs : List (List D)), c' = C.own e xs → c = C.own e xs)
theorem outC_spec {ks : List Key} {c c' : C} {s' : St} (he : (outC ks c).exec s = some (c', s')) : s' = s ∧ OC ks c c' := by
  unfold outC at he
  split at he
  · obtain ⟨rfl, rfl⟩ := exec_ret he; exact ⟨rfl, fun _ _ _ _ _ _ _ _ _ _ h => h, fun _ _ h => h⟩
  · obtain ⟨rfl, rfl⟩ := exec_ret he; exact ⟨rfl, fun _ _ _ _ _ _ _ _ _ _ h => h, fun _ _ h => h⟩
  · obtain ⟨_, s1, h1, he2⟩ := exec_bind' he
    obtain ⟨hk, rfl⟩ := exec_need h1
    obtain ⟨rfl, rfl⟩ := exec_ret he2
    exact ⟨rfl, fun _ _ β _ _ _ _ _ _ _ ⟨b, g1, g2⟩ => ⟨b, by rw [idxβ_of hk]; exact g1, g2⟩, by simp⟩
  · obtain ⟨_, s1, h1, he2⟩ := exec_bind' he
    obtain ⟨hk, rfl⟩ := exec_need h1
    obtain ⟨rfl, rfl⟩ := exec_ret he2
    refine ⟨rfl, fun _ _ β _ _ _ _ _ _ _ ⟨vs, g1, g2⟩ => ⟨vs, g1, ?_⟩, by simp⟩
    subst hk
    cases hvs : vs.toList with
    | nil => trivial
    | cons x xs => rw [hvs] at g2; exact g2.elim
  · simp [Prog.exec] at he
theorem outCs_spec {ks : List Key} : ∀ {cs cs' : List C} {s s' : St}, (outCs ks cs).exec s = some (cs', s') → s' = s ∧ All2 (OC ks) cs cs'
  | [], _, _, _, he => by obtain ⟨rfl, rfl⟩ := exec_ret he; exact ⟨rfl, trivial⟩
  | c :: cs, cs', s, s', he => by
    simp only [outCs] at he
    obtain ⟨c1, s1, h1, he⟩ := exec_bind' he
    obtain ⟨cs1, s2, h2, he⟩ := exec_bind' he
    obtain ⟨rfl, rfl⟩ := exec_ret he
    obtain ⟨rfl, g1⟩ := outC_spec h1
    obtain ⟨rfl, g2⟩ := outCs_spec h2
    exact ⟨rfl, g1, g2⟩
theorem outTup_spec {ks : List Key} : ∀ {vs vs' : List (Bool × List C)} {s s' : St}, (outTup ks vs).exec s = some (vs', s') → s' = s ∧ All2 (fun x y => x.1 = y.1 ∧ All2 (OC ks) x.2 y.2) vs vs'
  | [], _, _, _, he => by obtain ⟨rfl, rfl⟩ := exec_ret he; exact ⟨rfl, trivial⟩
  | (b, cs) :: vs, vs', s, s', he => by
    simp only [outTup] at he
    obtain ⟨c1, s1, h1, he⟩ := exec_bind' he
    obtain ⟨cs1, s2, h2, he⟩ := exec_bind' he
    obtain ⟨rfl, rfl⟩ := exec_ret he
    obtain ⟨rfl, g1⟩ := outCs_spec h1
    obtain ⟨rfl, g2⟩ := outTup_spec h2
    exact ⟨rfl, ⟨rfl, g1⟩, g2⟩
theorem All2.comp {α β γ : Type} {R : α → β → Prop} {S : β → γ → Prop} {T : α → γ → Prop} (hT : ∀ a b c, R a b → S b c → T a c) : ∀ {as : List α} {bs : List β} {cs : List γ}, All2 R as bs → All2 S bs cs → All2 T as cs
  | [], [], [], _, _ => trivial
  | _ :: _, _ :: _, _ :: _, h, k => ⟨hT _ _ _ h.1 k.1, All2.comp hT h.2 k.2⟩
theorem tup_cells {R : C → C → Prop} : ∀ {xs ys : List (Bool × List C)}, All2 (fun x y => x.1 = y.1 ∧ All2 R x.2 y.2) xs ys → All2 R (xs.flatMap (·.2)) (ys.flatMap (·.2))
  | [], [], _ => trivial
  | _ :: _, _ :: _, h => by
    simp only [List.flatMap_cons]
    exact All2.append h.1.2 (tup_cells h.2)
theorem outSV_spec {ks : List Key} {v v' : SV} {s s' : St} (he : (outSV ks v).exec s = some (v', s')) :
    s' = s ∧ All2 (OC ks) v.cells v'.cells ∧ ∀ (R R' : C → Value → Prop), (∀ c c' u, OC ks c c' → R c u → R' c' u) → ∀ u, SVRel R u v → SVRel R' u v' := by
  cases v with
  | one c =>
    simp only [outSV] at he
    obtain ⟨c1, s1, h1, he⟩ := exec_bind' he
    obtain ⟨rfl, rfl⟩ := exec_ret he
    obtain ⟨rfl, g⟩ := outC_spec h1
    exact ⟨rfl, ⟨g, trivial⟩, fun R R' hR u hu => ⟨hu.1, hR _ _ _ g hu.2⟩⟩
  | agg cs =>
    simp only [outSV] at he
    obtain ⟨c1, s1, h1, he⟩ := exec_bind' he
    obtain ⟨rfl, rfl⟩ := exec_ret he
    obtain ⟨rfl, g⟩ := outCs_spec h1
    exact ⟨rfl, g, fun R R' hR u ⟨ws, g1, g2⟩ => ⟨ws, g1, All2.comp (T := fun u c => R' c u) (fun u b c h k => hR b c u k h) g2 g⟩⟩
  | tup vs =>
    simp only [outSV] at he
    obtain ⟨c1, s1, h1, he⟩ := exec_bind' he
    obtain ⟨rfl, rfl⟩ := exec_ret he
    obtain ⟨rfl, g⟩ := outTup_spec h1
    refine ⟨rfl, tup_cells g, fun R R' hR u ⟨ws, g1, g2⟩ => ⟨ws, g1, All2.comp (fun a b c h k => ?_) g2 g⟩⟩
    unfold TRel at h ⊢
    obtain ⟨k1, k2⟩ := k
    rw [← k1]
    split
    · rename_i hb
      simp only [hb, if_true] at h
      obtain ⟨us, e1, e2⟩ := h
      exact ⟨us, e1, All2.comp (T := fun u c => R' c u) (fun u b c h k => hR b c u k h) e2 k2⟩
    · rename_i hb
      simp only [hb] at h
      obtain ⟨x, e1, e2, e3⟩ := h
      rw [e1] at k2
      match c.2, k2 with
      | [y], k2 => exact ⟨y, rfl, e2, hR _ _ _ k2.1 e3⟩
  | undef => simp [outSV, Prog.exec] at he
/-! ### the keys that go out -/
theorem inbs_get {n i : Nat} (h : i < n) : (inbs n)[i]? = some (.inb i) := by simp [inbs, h]
theorem inbs_nodup (n : Nat) : (inbs n).Nodup := by
  unfold inbs
  exact List.Pairwise.map _ (fun a b hab e => hab (by cases e; rfl)) List.nodup_range
theorem outKeys_nodup (nb : Nat) (cs : List C) : (outKeys nb cs).Nodup := by
  unfold outKeys
  refine List.nodup_append.2 ⟨inbs_nodup nb, (dedup_nodup _).filter _, ?_⟩
  rintro a ha b hb rfl
  simp only [inbs, List.mem_map] at ha
  obtain ⟨i, _, rfl⟩ := ha
  simp [Key.isIn] at hb
theorem outKeys_get {nb i : Nat} (h : i < nb) (cs : List C) : (outKeys nb cs)[i]? = some (.inb i) := by
  unfold outKeys
  rw [List.getElem?_append_left (by simp [inbs, h]), inbs_get h]
theorem frz1_cells (v : SV) (j l : Nat) : (frz1 v j).cells[l]? = v.cells[l]? ∨ ∃ e ys, v.cells[l]? = some (.own e ys) ∧ (frz1 v j).cells[l]? = some (.d (.sl e ys)) := by
  unfold frz1
  split
  · rename_i e ys h
    rw [setCell_cells, List.getElem?_set]
    by_cases hj : j = l
    · subst hj
      have hc : v.cells[j]? = some (.own e ys) := by
        rw [List.getD_eq_getElem?_getD] at h
        cases hx : v.cells[j]? with
        | none => rw [hx] at h; cases h
        | some c => rw [hx] at h; simp only [Option.getD_some] at h; rw [h]
      right
      refine ⟨e, ys, hc, ?_⟩
      rw [if_pos rfl, if_pos (List.getElem?_eq_some_iff.1 hc).1]
    · rw [if_neg hj]; exact .inl rfl
  · exact .inl rfl
theorem frzArgs_cells : ∀ (l : List (Nat × Nat)) (args : List SV) (i j : Nat), ((frzArgs l args).getD i .undef).cells[j]? = (args.getD i .undef).cells[j]? ∨ ∃ e ys, (args.getD i .undef).cells[j]? = some (.own e ys) ∧ ((frzArgs l args).getD i .undef).cells[j]? = some (.d (.sl e ys))
  | [], args, i, j => .inl rfl
  | (i0, j0) :: l, args, i, j => by
    simp only [frzArgs]
    have h1 : ((args.set i0 (frz1 (args.getD i0 .undef) j0)).getD i .undef).cells[j]? = (args.getD i .undef).cells[j]? ∨ ∃ e ys, (args.getD i .undef).cells[j]? = some (.own e ys) ∧ ((args.set i0 (frz1 (args.getD i0 .undef) j0)).getD i .undef).cells[j]? = some (.d (.sl e ys)) := by
      by_cases hi : i0 = i
      · subst hi
        by_cases hl : i0 < args.length
        · have e1 : (args.set i0 (frz1 (args.getD i0 .undef) j0)).getD i0 .undef = frz1 (args.getD i0 .undef) j0 := by
            simp [List.getD_eq_getElem?_getD, hl]
          rw [e1]
          exact frz1_cells _ _ _
        · left
          simp [List.getD_eq_getElem?_getD, List.getElem?_eq_none (Nat.le_of_not_lt hl), List.set_eq_of_length_le (Nat.le_of_not_lt hl)]
      · left
        simp [List.getD_eq_getElem?_getD, List.getElem?_set, hi]
    rcases frzArgs_cells l (args.set i0 (frz1 (args.getD i0 .undef) j0)) i j with h2 | ⟨e, ys, h2, h3⟩
    · rw [h2]; exact h1
    · rcases h1 with h1 | ⟨e', ys', h1, h4⟩
      · right; rw [h1] at h2; exact ⟨e, ys, h2, h3⟩
      · rw [h4] at h2; cases h2
theorem frzArgs_length : ∀ (l : List (Nat × Nat)) (args : List SV), (frzArgs l args).length = args.length
  | [], _ => rfl
  | (i, j) :: l, args => by simp [frzArgs, frzArgs_length l]
/-- whose the blocks are, for the caller -/
def outω (ks : List Key) (ω : Nat → Option Holder) (b : Nat) : Option Holder :=
  match ω b with
  | some (.tmp 0, j) => some (.tmp 0, j)
  | _ => idxω ks ω b
theorem outω_some {ks : List Key} {b : Nat} {g : Holder} (h : outω ks ω b = some g) : ∃ g', ω b = some g' := by
  unfold outω idxω at h
  cases hω : ω b with
  | none => rw [hω] at h; cases h
  | some g' => exact ⟨g', rfl⟩
theorem exit_good {P : Program} {N : Nat} {w0 : World} {vals : Array Value} {β0 : Key → Option Nat} {ω0 : Nat → Option Holder} {Z0 : Nat → Prop} {args : List SV} {r : CallRes} {fn : Func} {nb : Nat}
    (hT : Tabs P cfg) (h : Rel (ctxOf P N w0 vals β0 ω0 Z0) β ω Z s a w) (hsz : vals.size = args.length) (hok : args.all argOk = true) {e0 : Act} {s0 : St} {w1 : World}
    (hent : ∀ i, SVRel (CRel (ctxOf P 0 w0 vals β0 ω0 Z0) β0 Z0 s0 e0 w1) (vals.getD i undef) (args.getD i .undef))
    (hβ0 : ∀ k b, β0 k = some b → ∃ i, i < nb ∧ k = .inb i)
    {s' : St} (he : (exitP cfg fn.results.toList nb).exec s = some ((r.v, r.boxes), s')) (hfrz : ∀ i, i < args.length → (s' (.arg i)).v = (frzArgs r.frz args).getD i .undef) :
    ∃ u β' ω' Z', (results fn a.tmps).run P w = .ok u w ∧ Rel (ctxOf P 1 w0 vals β0 ω0 Z0) β' ω' Z' (exitSt args r) { tmps := #[u], defers := [] } w := by
  unfold exitP at he
  obtain ⟨vs, s1, h1, he1⟩ := exec_bind' he
  obtain ⟨hs1, us, hus, hvs⟩ := readRs_spec (K := ctxOf P N w0 vals β0 ω0 Z0) hT h _ _ _ h1
  rw [hs1] at he1
  generalize hks : outKeys nb (vs.flatMap SV.cells) = ks at he1
  obtain ⟨_, s2, h2, he2⟩ := exec_bind' he1
  obtain ⟨ω1, Z1, r1, v1⟩ := settles_spec _ _ _ _ _ _ h h2 hvs
  obtain ⟨vs1, s3, h3, he3⟩ := exec_bind' he2
  obtain ⟨ω2, Z2, r2, k2, v2⟩ := argSVs_spec _ _ _ _ _ _ _ r1 v1 h3
  have hv := outV_rel v2
  obtain ⟨v3, s4, h4, he4⟩ := exec_bind' he3
  obtain ⟨ω3, Z3, r3, k3, p3⟩ := stashSV_spec r2 hv.1 hv.2 h4
  obtain ⟨bs, s5, h5, he5⟩ := exec_bind' he4
  obtain ⟨hs5, hbl, hbx⟩ := getBoxes_spec _ s5 bs h5
  rw [hs5] at he5
  obtain ⟨v5, s6, h6, he6⟩ := exec_bind' he5
  obtain ⟨hv6, hs6⟩ := exec_ret he6
  obtain ⟨hs7, hcells, hout⟩ := outSV_spec h6
  have hv7 : r.v = v5 := congrArg Prod.fst hv6
  have hb7 : r.boxes = bs := congrArg Prod.snd hv6
  have hs' : s' = s4 := by rw [hs6, hs7]
  rw [hs'] at hfrz
  have hnd : ks.Nodup := by rw [← hks]; exact outKeys_nodup _ _
  have hinb : ∀ i, i < nb → ks[i]? = some (.inb i) := fun i hi => by rw [← hks]; exact outKeys_get hi _
  have hidx : ∀ i, i < nb → idxβ ks β (.inb i) = β (.inb i) := fun i hi => by
    have := idxβ_of (List.mem_of_getElem? (hinb i hi)) β
    rwa [idx_get hnd (hinb i hi)] at this
  refine ⟨combV us, idxβ ks β, outω ks ω3, Z3, results_run (K := ctxOf P N w0 vals β0 ω0 Z0) hus, ?_⟩
  -- the boxes
  have hbox : ∀ (k : Key) (cs' : List C), (exitSt args r (.box k)).v = .agg cs' → ∃ i k' cs, k = .inb i ∧ ks[i]? = some k' ∧ (s4 (.box k')).v = .agg cs ∧ cs' = cs.map (tc ks) ∧ cs.all (tok ks) = true := by
    intro k cs hk
    cases k with
    | inb i =>
      simp only [exitSt, hb7] at hk
      cases hbi : bs[i]? with
      | none => rw [hbi] at hk; cases hk
      | some cs' =>
        rw [hbi] at hk
        cases hk
        have hi : i < ks.length := by rw [← hbl]; exact (List.getElem?_eq_some_iff.1 hbi).1
        obtain ⟨cs2, g1, g2, g3⟩ := hbx i _ (List.getElem?_eq_getElem hi)
        rw [hbi] at g1
        cases g1
        exact ⟨i, _, cs2, rfl, List.getElem?_eq_getElem hi, g2, rfl, g3⟩
    | loc t => simp [exitSt] at hk
    | esc t i => simp [exitSt] at hk
  have hω : ∀ (i : Nat) (k' : Key) (j : Option Nat) (b : Nat), ks[i]? = some k' → ω3 b = some (.box k', j) → outω ks ω3 b = some (.box (.inb i), j) := by
    intro i k' j b hi hb
    have hm : k' ∈ ks := List.mem_of_getElem? hi
    simp only [outω, hb, idxω, hm, if_true, idx_get hnd hi]
  have hargv : ∀ i, (exitSt args r (.arg i)).v = if i < args.length then (s4 (.arg i)).v else .undef := by
    intro i
    show (frzArgs r.frz args).getD i .undef = _
    split
    · rename_i hi; exact (hfrz i hi).symm
    · rename_i hi
      rw [List.getD_eq_getElem?_getD, List.getElem?_eq_none (by rw [frzArgs_length]; omega)]
      rfl
  refine ⟨rfl, rfl, r3.os, r3.tape, r3.output, r3.base, r3.frame, r3.zin, r3.zold, ?_, ?_, ?_, ?_, ?_, ?_, ?_, ?_⟩
  · intro b hb
    rcases r3.znew b hb with g | g | g | ⟨i, j, e, ys, ad, len, cap, g1, g2, g3⟩
    · exact .inl g
    · exact .inr (.inl g)
    · exact .inr (.inr (.inl g))
    · refine .inr (.inr (.inr ⟨i, j, e, ys, ad, len, cap, ?_, g2, g3⟩))
      have hi : i < args.length := by
        rw [← hsz]
        by_cases hi : i < vals.size
        · exact hi
        · exfalso
          have g2' : (flat (vals.getD i undef))[j]? = some (.slice (some ad) len cap) := g2
          rw [Array.getD_eq_getD_getElem?, Array.getElem?_eq_none (by omega)] at g2'
          simp [undef, flat] at g2'
      rw [hargv, if_pos hi]
      exact g1
  · intro t
    cases t with
    | zero =>
      show SVRel _ (combV us) r.v
      rw [hv7]
      exact hout (CRel (ctxOf P N w0 vals β0 ω0 Z0) β Z3 s4 a w) (CRel (ctxOf P 1 w0 vals β0 ω0 Z0) (idxβ ks β) Z3 (exitSt args r) { tmps := #[combV us], defers := [] } w) (fun c c' u hc hr => hc.1 _ _ _ _ _ _ _ _ _ _ hr) _ p3.1
    | succ t => exact trivial
  · intro i
    rw [hargv]
    split
    · rename_i hi
      refine SVRel.monoI (fun j c u hc hu hr => ?_) (r3.args i)
      have hfz := frzArgs_cells r.frz args i j
      rw [← hfrz i hi, hc] at hfz
      have hargs : ∀ c0, (args.getD i .undef).cells[j]? = some c0 → argOkC c0 = true := fun c0 hac => by
        have : argOk (args.getD i .undef) = true := by
          rw [List.getD_eq_getElem?_getD, List.getElem?_eq_getElem hi]
          exact List.all_eq_true.1 hok _ (List.getElem_mem hi)
        exact List.all_eq_true.1 this _ (List.mem_of_getElem? hac)
      cases c with
      | d x => exact hr
      | own e xs => exact hr
      | dead => trivial
      | da xs => exact hr
      | _ =>
        rcases hfz with hfz | ⟨e, ys, _, hfz⟩
        · have hac := hfz.symm
          obtain ⟨u', q1, q2⟩ := (hent i).cell hac
          have hargok := hargs _ hac
          first
            | (cases hargok; done)
            | (obtain ⟨b0, f1, _⟩ := q2
               obtain ⟨i0, hi0, rfl⟩ := hβ0 _ _ f1
               obtain ⟨b, f2, f3⟩ := hr
               exact ⟨b, by rw [hidx _ hi0]; exact f2, f3⟩)
            | (obtain ⟨vs0, f1, f2⟩ := q2
               obtain ⟨vs2, f3, f4⟩ := hr
               refine ⟨vs2, f3, f4.mono_mem fun u p hp ⟨b, t1, t2⟩ => ?_⟩
               obtain ⟨l, hl⟩ := List.getElem?_of_mem hp
               obtain ⟨u0, _, b0, t3, _⟩ := f2.get hl
               obtain ⟨i0, hi0, hk0⟩ := hβ0 _ _ t3
               rw [hk0] at t1
               exact ⟨b, by rw [hk0, hidx _ hi0]; exact t1, t2⟩)
        · cases hfz
    · trivial
  · intro k
    cases hkv : (exitSt args r (.box k)).v with
    | agg cs =>
      obtain ⟨i, k', cs0, rfl, hi, g1, rfl, g2⟩ := hbox k cs hkv
      obtain ⟨b, ws, el, lo, hi', f1, f2, f3, f4, f5⟩ := BoxRel.cell r3 g1
      refine ⟨b, ws, el, lo, hi', ?_, hω i k' none b hi f2, f3, f4, f5.map_right fun u c hc hr => crel_tc (tok_mem g2 hc) hr⟩
      have := idxβ_of (List.mem_of_getElem? hi) β
      rw [idx_get hnd hi] at this
      rw [this]
      exact f1
    | undef =>
      show idxβ ks β k = none
      cases hβ : idxβ ks β k with
      | none => rfl
      | some b =>
        obtain ⟨i, k', rfl, hi, g⟩ := idxβ_some hβ
        obtain ⟨cs, g1, g2, g3⟩ := hbx i k' hi
        simp only [exitSt, hb7, g1] at hkv
        cases hkv
    | one c => cases k <;> simp only [exitSt] at hkv <;> (try (split at hkv)) <;> cases hkv
    | tup c => cases k <;> simp only [exitSt] at hkv <;> (try (split at hkv)) <;> cases hkv
  · intro q j e xs ad len cap hr hc hh
    cases q with
    | tmp t =>
      cases t with
      | zero =>
        have hc' : r.v.cells[j]? = some (.own e xs) := hc
        rw [hv7] at hc'
        obtain ⟨c0, q1, q2⟩ := hcells.get hc'
        have := q2.2 e xs rfl
        subst this
        have hp := (p3.2 j _ _ q1 hh).2 e xs ad len cap rfl rfl
        exact ⟨by simp only [outω, hp.1], hp.2.1⟩
      | succ t => simp [exitSt, SV.cells] at hc
    | arg i => simp [Res.isArg] at hr
    | box k =>
      cases hv : (exitSt args r (.box k)).v with
      | agg cs =>
        obtain ⟨i, k', cs0, rfl, hi, g1, rfl, g2⟩ := hbox k cs hv
        rw [hv] at hc
        have hc : (cs0.map (tc ks))[j]? = some (.own e xs) := hc
        have hc0 : cs0[j]? = some (.own e xs) := by
          rw [List.getElem?_map] at hc
          cases hcj : cs0[j]? with
          | none => rw [hcj] at hc; cases hc
          | some c0 => rw [hcj] at hc; simp only [Option.map_some, Option.some.injEq] at hc; rw [tc_own hc]
        have hβ : idxβ ks β (.inb i) = β k' := by
          have := idxβ_of (List.mem_of_getElem? hi) β
          rw [idx_get hnd hi] at this
          exact this
        have hh' : hdr (ctxOf P N w0 vals β0 ω0 Z0) β a w (.box k') j = some (.slice (some ad) len cap) := by
          simp only [hdr, hβ] at hh
          exact hh
        obtain ⟨p1, p2⟩ := r3.own (.box k') j e xs ad len cap rfl (by rw [g1]; exact hc0) hh'
        exact ⟨hω i k' (some j) _ hi p1, p2⟩
      | undef => rw [hv] at hc; simp [SV.cells] at hc
      | one c => cases k <;> simp only [exitSt] at hv <;> (try (split at hv)) <;> cases hv
      | tup c => cases k <;> simp only [exitSt] at hv <;> (try (split at hv)) <;> cases hv
  · intro i j e xs ad len cap hc hh
    rw [hargv] at hc
    split at hc
    · exact r3.argown i j e xs ad len cap hc hh
    · simp [SV.cells] at hc
  · intro b g hb
    obtain ⟨g', hg'⟩ := outω_some hb
    exact r3.ωok b g' hg'
  · intro k b hb
    obtain ⟨i, hi, rfl⟩ := hβ0 k b hb
    rw [hidx i hi]
    exact r3.βold _ b hb
end
end Go.Vs
/- A function keeps its contract if its abstract code does. -/
namespace Go.Vs
theorem lk_startSlots (t : Nat) : ∀ (args : List SV) (i : Nat), lk t (startSlots i args) = if i ≤ t ∧ t < i + args.length then some (startSV t (args.getD (t - i) .undef)) else none
  | [], i => by simp [startSlots, lk]
  | v :: vs, i => by
    simp only [startSlots, lk_cons]
    by_cases h : t = i
    · subst h; simp
    · rw [if_neg h, lk_startSlots t vs (i + 1)]
      by_cases h2 : i + 1 ≤ t ∧ t < i + 1 + vs.length
      · rw [if_pos h2, if_pos (by simp; omega)]
        rw [show t - i = (t - (i + 1)) + 1 by omega]
        simp
      · rw [if_neg h2, if_neg (by simp; omega)]
theorem lkK_startBoxes : ∀ (bs : List (List C)) (i : Nat) (k : Key), lkK k (startBoxes i bs) = match k with | .inb l => if i ≤ l then bs[l - i]? else none | _ => none
  | [], i, k => by cases k <;> simp [startBoxes, lkK]
  | b :: bs, i, k => by
    simp only [startBoxes, lkK]
    rw [lkK_startBoxes bs (i + 1) k]
    cases k with
    | inb l =>
      simp only [Key.inb.injEq]
      by_cases h : l = i
      · subst h; simp
      · rw [if_neg h]
        by_cases h2 : i + 1 ≤ l
        · rw [if_pos h2, if_pos (by omega), show l - i = (l - (i + 1)) + 1 by omega]; simp
        · rw [if_neg h2, if_neg (by omega)]
    | loc t => simp
    | esc t j => simp
section
variable {P : Program} {w : World} {vals : Array Value} {β : Key → Option Nat} {ω : Nat → Option Holder} {Z : Nat → Prop} {args : List SV} {boxes : List (List C)}
theorem start_tmp (t : Nat) : ((startPS args boxes).st (.tmp t)).v = if t < args.length then RV.copy { v := args.getD t .undef } (.arg t) else .undef := by
  show (lk t (startSlots 0 args)).getD .undef = _
  rw [lk_startSlots]
  by_cases h : t < args.length
  · simp [h, startSV]
  · simp [h]
theorem start_box (k : Key) : ((startPS args boxes).st (.box k)).v = (entrySt args boxes (.box k)).v := by
  show (match lkK k (startBoxes 0 boxes) with | some cs => SV.agg cs | none => .undef) = _
  rw [lkK_startBoxes]
  cases k with
  | inb i => simp [entrySt] <;> cases boxes[i]? <;> rfl
  | loc t => rfl
  | esc t j => rfl
theorem argOk_get (hok : args.all argOk = true) {i j : Nat} {c : C} (hc : (args.getD i .undef).cells[j]? = some c) : argOkC c = true := by
  rw [List.getD_eq_getElem?_getD] at hc
  cases hi : args[i]? with
  | none => rw [hi] at hc; simp [SV.cells] at hc
  | some v =>
    rw [hi] at hc
    have := List.all_eq_true.1 hok v (List.mem_of_getElem? hi)
    exact List.all_eq_true.1 this c (List.mem_of_getElem? hc)
theorem start_rel {N : Nat} (hent : Rel (ctxOf P 0 w vals β ω Z) β ω Z (entrySt args boxes) { tmps := #[], defers := [] } w) (hsz : vals.size = args.length) (hok : args.all argOk = true) (hpl : boxes.all (fun b => b.all (bok boxes.length)) = true) (hN : args.length ≤ N) :
    Rel (ctxOf P N w vals β ω Z) β ω Z (startPS args boxes).st { tmps := vals ++ Array.replicate (N - vals.size) undef, defers := [] } w := by
  have harg : ∀ (i j : Nat) (c : C) (u : Value), argOkC c = true → CRel (ctxOf P 0 w vals β ω Z) β Z (entrySt args boxes) { tmps := #[], defers := [] } w c u →
      CRel (ctxOf P N w vals β ω Z) β Z (startPS args boxes).st { tmps := vals ++ Array.replicate (N - vals.size) undef, defers := [] } w c u := by
    intro i j c u hc h
    cases c <;> first | (cases hc; done) | exact h
  refine ⟨?_, rfl, hent.os, hent.tape, hent.output, hent.base, hent.frame, hent.zin, hent.zold, ?_, ?_, ?_, ?_, ?_, ?_, hent.ωok, hent.βold⟩
  · show (vals ++ Array.replicate (N - vals.size) undef).size = N
    simp; omega
  · exact hent.znew
  · intro t
    rw [start_tmp]
    split
    · rename_i ht
      have hcp := hent.copy (r := .arg t) (hent.args t) (fun _ => rfl)
      have hval : (vals ++ Array.replicate (N - vals.size) undef).getD t undef = vals.getD t undef := by
        simp only [Array.getD_eq_getD_getElem?]
        rw [Array.getElem?_append_left (by omega)]
      show SVRel _ ((vals ++ Array.replicate (N - vals.size) undef).getD t undef) _
      rw [hval]
      refine SVRel.monoI (fun j c u hc hu hr => ?_) hcp.1
      have hc' := hc
      rw [copy_cells, bcells_get] at hc'
      simp only at hc'
      cases hc0 : (args.getD t .undef).cells[j]? with
      | none => rw [hc0] at hc'; cases hc'
      | some c0 =>
        rw [hc0] at hc'
        simp only [Option.map_some, Nat.zero_add, Option.some.injEq] at hc'
        have hok0 := argOk_get hok hc0
        subst hc'
        cases c0 with
        | own e xs => exact hr
        | bor => cases hok0
        | ea => cases hok0
        | da => cases hok0
        | dead => cases hok0
        | d x => exact hr
        | ptr k off => exact hr
        | clo f caps => exact hr
    · trivial
  · intro i
    refine SVRel.monoI (fun j c u hc hu hr => ?_) (hent.args i)
    exact harg i j c u (argOk_get hok hc) hr
  · intro k
    rw [start_box]
    have hb := hent.boxes k
    cases hv : (entrySt args boxes (.box k)).v with
    | agg cs =>
      obtain ⟨b, ws, el, lo, hi, g1, g2, g3, g4, g5⟩ := BoxRel.cell hent hv
      refine ⟨b, ws, el, lo, hi, g1, g2, g3, g4, g5.mono_mem fun u c hc hr => crel_bok (n := boxes.length) (bok_mem ?_ hc) hr⟩
      cases k with
      | inb i =>
        simp only [entrySt] at hv
        cases hbi : boxes[i]? with
        | none => rw [hbi] at hv; cases hv
        | some b => rw [hbi] at hv; cases hv; exact List.all_eq_true.1 hpl _ (List.mem_of_getElem? hbi)
      | loc t => simp [entrySt] at hv
      | esc t i => simp [entrySt] at hv
    | undef => rw [hv] at hb; exact hb
    | one c => rw [hv] at hb; exact hb.elim
    | tup c => rw [hv] at hb; exact hb.elim
  · intro r j e xs ad len cap hr hc hh
    cases r with
    | tmp t =>
      rw [start_tmp] at hc
      split at hc
      · exfalso
        rw [copy_cells, bcells_get] at hc
        cases hc0 : (args.getD t .undef).cells[j]? with
        | none => simp only at hc; rw [hc0] at hc; cases hc
        | some c0 =>
          simp only at hc
          rw [hc0] at hc
          simp only [Option.map_some, Option.some.injEq] at hc
          exact bcell_noOwn _ _ _ _ e xs hc
      · simp [SV.cells] at hc
    | arg i => simp [Res.isArg] at hr
    | box k =>
      rw [start_box] at hc
      exact hent.own (.box k) j e xs ad len cap rfl hc hh
  · intro i j e xs ad len cap hc hh
    exact hent.argown i j e xs ad len cap hc hh
theorem entry_keys (hent : Rel (ctxOf P 0 w vals β ω Z) β ω Z (entrySt args boxes) { tmps := #[], defers := [] } w) : ∀ k b, β k = some b → ∃ i, i < boxes.length ∧ k = .inb i := by
  intro k b hb
  have h := hent.boxes k
  cases k with
  | inb i =>
    by_cases hi : i < boxes.length
    · exact ⟨i, hi, rfl⟩
    · have hv : (entrySt args boxes (.box (.inb i))).v = .undef := by simp [entrySt, List.getElem?_eq_none (Nat.le_of_not_lt hi)]
      rw [hv] at h
      simp only [BoxRel] at h
      rw [h] at hb
      cases hb
  | loc t => simp only [entrySt, BoxRel] at h; rw [h] at hb; cases hb
  | esc t i => simp only [entrySt, BoxRel] at h; rw [h] at hb; cases hb
/-- what a function that has a body does -/
def FnCalls (P : Program) (f : FuncId) (F : AFun) : Prop :=
  ∀ (args : List SV) (boxes : List (List C)) (r : CallRes), F args boxes = some r → ∀ (w : World) (vals : Array Value) (β : Key → Option Nat) (ω : Nat → Option Holder) (Z : Nat → Prop),
    vals.size = args.length → args.all argOk = true → boxes.all (fun b => b.all (bok boxes.length)) = true → Rel (ctxOf P 0 w vals β ω Z) β ω Z (entrySt args boxes) { tmps := #[], defers := [] } w →
    Calls P f vals w fun e w' => ∃ v β' ω' Z', e = .returned v ∧ Rel (ctxOf P 1 w vals β ω Z) β' ω' Z' (exitSt args r) { tmps := #[v], defers := [] } w'
/-- A FUNCTION's CONTRACT, from its abstract code. -/
theorem fn_calls {f : FuncId} {fn : Func} {c : Code} {V : VF} {F : AFun} (hf : P.funcs[f]? = some fn) (hb : fn.body = some c) (hmix : P.follows .mixedOrders = true) (hC : COK P V.cfg) (hN : fn.ntmps = V.cfg.N)
    (hcon : ∀ (args : List SV) (boxes : List (List C)) (r : CallRes), F args boxes = some r → args.length ≤ fn.ntmps ∧ (∀ i, i < boxes.length → Key.inb i ∈ V.bkeys) ∧ awp V c (startPS args boxes) (Ends V.cfg fn.results.toList args boxes.length r)) : FnCalls P f F := by
  intro args boxes r hF w vals β ω Z hsz hok hpl hent
  obtain ⟨hlen, hkeys, hawp⟩ := hcon args boxes r hF
  refine calls_of_wp hf hb ?_
  have hstart := start_rel (N := fn.ntmps) hent hsz hok hpl hlen
  have hek := entry_keys hent
  have hko : KeyOK (ctxOf P fn.ntmps w vals β ω Z) V := by
    intro k b hkb
    obtain ⟨i, hi, rfl⟩ := hek k b hkb
    exact ⟨rfl, hkeys i hi⟩
  refine wp_mono (awp_sound (K := ctxOf P fn.ntmps w vals β ω Z) hC hN hmix hko c (startPS args boxes) _ _ w hawp ⟨⟨β, ω, Z, hstart⟩, by show args.length = vals.size; omega⟩) ?_
  rintro e a w' ⟨ex, p', rfl, ⟨hex, hE⟩, ⟨β1, ω1, Z1, hr⟩, hpl'⟩
  cases hx : (exitP V.cfg fn.results.toList boxes.length).exec p'.st with
  | none => rw [hx] at hE; exact hE.elim
  | some x =>
    obtain ⟨⟨v, bs⟩, s'⟩ := x
    rw [hx] at hE
    obtain ⟨rfl, rfl, hfz⟩ := hE
    obtain ⟨u, β', ω', Z', g1, g2⟩ := exit_good hC.tabs hr hsz hok hent.args hek hx hfz
    have : bodyPost P fn (fun e w' => ∃ v β' ω' Z', e = .returned v ∧ Rel (ctxOf P 1 w vals β ω Z) β' ω' Z' (exitSt args r) { tmps := #[v], defers := [] } w') .ret a w' :=
      ⟨hr.defers, u, g1, u, β', ω', Z', rfl, g2⟩
    rcases hex with rfl | rfl
    · exact this
    · exact this
theorem run_callFunc_enter {P : Program} {f : FuncId} {fn : Func} {c : Code} (hf : P.funcs[f]? = some fn) (hname : (fn.name == "runtime.NumGoroutine") = false) (hb : fn.body = some c) (args : Array Value) (w : World) :
    (callFunc f args).run P w = .ok (.enter f args) w := by
  have h1 : fn.name ≠ "runtime.NumGoroutine" := by simpa using hname
  simp [callFunc, hf, h1, hb]
theorem fn_ok {f : FuncId} {fn : Func} {c : Code} {F : AFun} (hf : P.funcs[f]? = some fn) (hname : (fn.name == "runtime.NumGoroutine") = false) (hb : fn.body = some c) (h : FnCalls P f F) : CallOK P f F :=
  fun args boxes r hF w vals β ω Z hsz hok hpl hent => .inl ⟨run_callFunc_enter hf hname hb vals w, h args boxes r hF w vals β ω Z hsz hok hpl hent⟩
end
end Go.Vs
/- What is handed to the law, read as data. -/
namespace Go.Vs
open Go.ChangeShapes
/-! ## Data of a type -/
def WfFs (W : TypeId → List D → Prop) : List (Nat × TypeId) → List D → Prop
  | [], ds => ds = []
  | (_, t) :: r, ds => ∃ a b, ds = a ++ b ∧ W t a ∧ WfFs W r b
def WfD (cfg : Cfg) : Nat → TypeId → List D → Prop
  | 0, _, _ => False
  | n + 1, t, ds => match cfg.ti t with
    | some { kind := .bool, .. } => ∃ b, ds = [.bool b]
    | some { kind := .int k, .. } => ∃ x, ds = [.int k x] ∧ k.min ≤ x ∧ x ≤ k.max
    | some { kind := .str, .. } => ∃ s, ds = [.str s] ∧ s.length ≤ maxLen
    | some { kind := .slice e, .. } => match cfg.ti e with
      | some i => ds = [.nil] ∨ ∃ xs, ds = [.sl i.size xs] ∧ xs.length ≤ maxLen ∧ ∀ x ∈ xs, WfD cfg n e x
      | none => False
    | some { kind := .struct fs, .. } => WfFs (WfD cfg n) fs ds
    | _ => False
def tiles (cfg : Cfg) (p : TypeId → Bool) : List (Nat × TypeId) → Nat → Nat → Bool
  | [], o, size => o == size
  | (off, t) :: r, o, size => match cfg.ti t with
    | some i => off == o && p t && tiles cfg p r (o + i.size) size
    | none => false
def plainT (cfg : Cfg) : Nat → TypeId → Bool
  | 0, _ => false
  | n + 1, t => match cfg.ti t with
    | some { kind := .bool, size, .. } => size == 1
    | some { kind := .int _, size, .. } => size == 1
    | some { kind := .str, size, .. } => size == 1
    | some { kind := .slice e, size, .. } => size == 1 && plainT cfg n e && (match cfg.ti e with | some i => decide (0 < i.size) | none => false)
    | some { kind := .struct fs, size, .. } => tiles cfg (plainT cfg n) fs 0 size
    | _ => false
mutual
def bulkD : D → Nat
  | .str s => s.length + 1
  | .sl _ xs => bulkLL xs + 1
  | _ => 1
def bulkL : List D → Nat
  | [] => 0
  | d :: r => bulkD d + bulkL r
def bulkLL : List (List D) → Nat
  | [] => 0
  | x :: r => bulkL x + bulkLL r
end
theorem bulkL_append : ∀ (a b : List D), bulkL (a ++ b) = bulkL a + bulkL b
  | [], b => by simp [bulkL]
  | d :: a, b => by simp [bulkL, bulkL_append a b]; omega
/-- how the bulk of a reading is counted -/
structure Bulk (H : Type) where
  one : DataW H → Nat
  all : List (DataW H) → Nat
  str : ∀ b, one (.lit (.string b)) = b.length + 1
  slice : ∀ x y, one (.slice x y) = all x + all y + 1
  agg : ∀ x, one (.agg x) = all x + 1
  pos : ∀ d, 1 ≤ one d
  nil : all [] = 0
  cons : ∀ d r, all (d :: r) = one d + all r
theorem mapM_opt_get {α β : Type} {f : α → Option β} : ∀ {l : List α} {r : List β}, l.mapM f = some r → r.length = l.length ∧ ∀ (i : Nat) (x : α), l[i]? = some x → ∃ y, r[i]? = some y ∧ f x = some y
  | [], r, h => by simp at h; subst h; simp
  | a :: l, r, h => by
    simp only [List.mapM_cons, Option.bind_eq_bind, Option.pure_def] at h
    obtain ⟨b, hb, h⟩ := Option.bind_eq_some_iff.1 h
    obtain ⟨r', hr, h⟩ := Option.bind_eq_some_iff.1 h
    cases h
    obtain ⟨h1, h2⟩ := mapM_opt_get hr
    refine ⟨by simp [h1], fun i x hi => ?_⟩
    cases i with
    | zero => simp only [List.getElem?_cons_zero, Option.some.injEq] at hi; subst hi; exact ⟨b, rfl, hb⟩
    | succ i => simp only [List.getElem?_cons_succ] at hi; exact h2 i x hi
theorem cells?_get {w : World} {base : Nat} {a : Addr} {n : Nat} {cs : List Value} (h : w.cells? base a n = some cs) : cs.length = n ∧ ∀ i, i < n → w.cell? (a.add i) = cs[i]? := by
  unfold World.cells? at h
  split at h
  · obtain ⟨h1, h2⟩ := mapM_opt_get h
    simp only [List.length_range] at h1
    refine ⟨h1, fun i hi => ?_⟩
    obtain ⟨y, g1, g2⟩ := h2 i i (by simp [hi])
    rw [g1]
    exact g2
  · cases h
theorem tk_bool {d : TypeDesc} (h : tk d = .bool) : d = .bool := by
  cases d <;> simp [tk] at h
  rfl
section
variable {H : Type} {enc : TypeId × Value → H} {P : Program} {w : World} {held : Bool} {cfg : Cfg}
theorem bulk_all (B : Bulk H) : ∀ (l : List (DataW H)) (f : List (List D)), All2 (fun d x => bulkL x ≤ B.one d) l f → bulkLL f ≤ B.all l
  | [], [], _ => by simp [bulkLL]
  | d :: l, x :: f, h => by
    have := bulk_all B l f h.2
    have := h.1
    simp only [bulkLL, B.cons]
    omega
theorem read_fields (hT : Tabs P cfg) (B : Bulk H) {W : TypeId → List D → Prop} {p : TypeId → Bool} {fuel : Nat} {cs : List Value} {size : Nat} (hlen : cs.length = size)
    (ih : ∀ t cs x, p t = true → DataW.trod enc P w 0 (fun _ => true) held fuel t cs = some x → ∃ ds, All2 (fun v d => DRel w (fun b => b < w.heap.size) d v) cs ds ∧ W t ds ∧ bulkL ds ≤ B.one x.1) :
    ∀ (fs : List Field) (o : Nat) (xs : List (DataW H × List MemPlace)), tiles cfg p (fs.map fun f => (f.offset, f.type)) o size = true → o ≤ size →
      xs.length = fs.length → (∀ (i : Nat) (f : Field), fs[i]? = some f → DataW.trod enc P w 0 (fun _ => true) held fuel f.type ((cs.drop f.offset).take (P.cellsOf f.type)) = xs[i]?) →
      ∃ ds, All2 (fun v d => DRel w (fun b => b < w.heap.size) d v) (cs.drop o) ds ∧ WfFs W (fs.map fun f => (f.offset, f.type)) ds ∧ bulkL ds ≤ B.all (xs.map (·.1)) := by
  intro fs
  induction fs with
  | nil =>
    intro o xs ht ho hl h
    simp only [List.map_nil, tiles, beq_iff_eq] at ht
    refine ⟨[], ?_, rfl, by simp [bulkL]⟩
    rw [List.drop_eq_nil_of_le (by omega)]
    trivial
  | cons f fs ihf =>
    intro o xs ht ho hl h
    simp only [List.map_cons, tiles] at ht
    split at ht
    · rename_i i hi
      simp only [Bool.and_eq_true, beq_iff_eq] at ht
      obtain ⟨⟨h1, h2⟩, h3⟩ := ht
      have hsz : P.cellsOf f.type = i.size := by
        obtain ⟨info, d, g1, g2, g3, _⟩ := tiOf_parts (hT.T _ _ hi)
        simp [Program.cellsOf, g1, g3]
      obtain ⟨x, xs', rfl⟩ : ∃ x xs', xs = x :: xs' := by
        cases xs with
        | nil => simp at hl
        | cons x xs' => exact ⟨x, xs', rfl⟩
      have hx := h 0 f rfl
      simp only [List.getElem?_cons_zero] at hx
      obtain ⟨a, a1, a2, a3⟩ := ih _ _ _ h2 hx
      rw [hsz, h1] at a1
      have hle : ∀ (l : List (Nat × TypeId)) (o : Nat), tiles cfg p l o size = true → o ≤ size := by
        intro l
        induction l with
        | nil => intro o h; simp only [tiles, beq_iff_eq] at h; omega
        | cons y l ihl =>
          intro o h
          obtain ⟨off, t⟩ := y
          simp only [tiles] at h
          split at h
          · simp only [Bool.and_eq_true] at h
            have := ihl _ h.2
            omega
          · cases h
      have hle' := hle _ _ h3
      obtain ⟨b, b1, b2, b3⟩ := ihf (o + i.size) xs' h3 hle' (by simpa using hl) (fun l g hg => by have := h (l + 1) g (by simpa using hg); simpa using this)
      refine ⟨a ++ b, ?_, ⟨a, b, rfl, a2, b2⟩, ?_⟩
      · have hsplit : cs.drop o = (cs.drop o).take i.size ++ cs.drop (o + i.size) := by
          rw [← List.drop_drop, List.take_append_drop]
        rw [hsplit]
        exact All2.append a1 b1
      · rw [bulkL_append, List.map_cons, B.cons]
        omega
    · cases ht
theorem read_data (hT : Tabs P cfg) (B : Bulk H) : ∀ (n : Nat) (t : TypeId) (fuel : Nat) (cs : List Value) (x : DataW H × List MemPlace), plainT cfg n t = true → DataW.trod enc P w 0 (fun _ => true) held fuel t cs = some x →
    ∃ ds, All2 (fun v d => DRel w (fun b => b < w.heap.size) d v) cs ds ∧ WfD cfg n t ds ∧ bulkL ds ≤ B.one x.1 := by
  intro n
  induction n with
  | zero => intro t fuel cs x hp; simp [plainT] at hp
  | succ n ih =>
    intro t fuel cs x hp h
    simp only [plainT] at hp
    simp only [WfD]
    split at hp
    · rename_i size bytes zero hti
      obtain ⟨d, hd, hk, _⟩ := run_underlying' (w := w) (hT.T _ _ hti)
      have := tk_bool hk
      subst this
      obtain ⟨b, rfl, rfl⟩ := DataW.trod_bool hd h
      exact ⟨[.bool b], ⟨rfl, trivial⟩, ⟨_, rfl⟩, by simpa [bulkL, bulkD] using B.pos _⟩
    · rename_i size bytes k zero hti
      obtain ⟨d, hd, hk, _⟩ := run_underlying' (w := w) (hT.T _ _ hti)
      have := tk_int hk
      subst this
      obtain ⟨b, rfl, rfl, hwf⟩ := DataW.trod_int hd h
      simp only [Lit.wf, Bool.and_eq_true, decide_eq_true_eq] at hwf
      exact ⟨[.int k b], ⟨rfl, trivial⟩, ⟨_, rfl, hwf⟩, by simpa [bulkL, bulkD] using B.pos _⟩
    · rename_i size bytes zero hti
      obtain ⟨d, hd, hk, _⟩ := run_underlying' (w := w) (hT.T _ _ hti)
      have := tk_str hk
      subst this
      obtain ⟨b, rfl, rfl, hwf⟩ := DataW.trod_string hd h
      refine ⟨[.str b.data.toList], ⟨?_, trivial⟩, ⟨_, rfl, ?_⟩, ?_⟩
      · simp [DRel]
      · rw [Array.length_toList]; exact hwf
      · simp [bulkL, bulkD, B.str]
    · rename_i size bytes e zero hti
      obtain ⟨d, hd, hk, _⟩ := run_underlying' (w := w) (hT.T _ _ hti)
      have := tk_slice hk
      subst this
      simp only [Bool.and_eq_true] at hp
      obtain ⟨⟨_, hpe⟩, hpos⟩ := hp
      split at hpos
      · rename_i i hi
        have hpos : 0 < i.size := by simpa using hpos
        have hsz : P.cellsOf e = i.size := by
          obtain ⟨info, d, g1, g2, g3, _⟩ := tiOf_parts (hT.T _ _ hi)
          simp [Program.cellsOf, g1, g3]
        rcases DataW.trod_slice hd h with ⟨rfl, rfl⟩ | ⟨a, len, cap, elems, rest, m, _, rfl, rfl, hb, hl, hm, hlen, hel, hsp, _⟩
        · exact ⟨[.nil], ⟨rfl, trivial⟩, .inl rfl, by simpa [bulkL, bulkD] using B.pos _⟩
        obtain ⟨hrl, hrest⟩ := hsp rfl
        rw [hsz] at hel hrest
        have each : ∀ (j : Nat) (y : DataW H × List MemPlace), elems[j]? = some y → ∃ ds cs, w.cells? 0 (a.add (j * i.size)) i.size = some cs ∧ All2 (fun v d => DRel w (fun b => b < w.heap.size) d v) cs ds ∧ WfD cfg n e ds ∧ bulkL ds ≤ B.one y.1 := by
          intro j y hy
          have := hel j (by rw [← hlen]; exact (List.getElem?_eq_some_iff.1 hy).1)
          rw [hy] at this
          obtain ⟨cs, g1, g2⟩ := Option.bind_eq_some_iff.1 this
          obtain ⟨ds, q1, q2, q3⟩ := ih e m cs y hpe g2
          exact ⟨ds, cs, g1, q1, q2, q3⟩
        obtain ⟨f, hf⟩ := Go.Deep.choose_lt (α := List D) (n := len) (p := fun j ds => ∃ y cs, elems[j]? = some y ∧ w.cells? 0 (a.add (j * i.size)) i.size = some cs ∧ All2 (fun v d => DRel w (fun b => b < w.heap.size) d v) cs ds ∧ WfD cfg n e ds ∧ bulkL ds ≤ B.one y.1) (fun j hj => by
          have hy : elems[j]? = some elems[j] := List.getElem?_eq_getElem (by omega)
          obtain ⟨ds, cs, q⟩ := each j _ hy
          exact ⟨ds, _, cs, hy, q⟩)
        have hfget : ∀ (j : Nat) (x : List D), ((List.range len).map f)[j]? = some x → j < len ∧ x = f j := by
          intro j x hx
          have hj : j < len := by simpa using (List.getElem?_eq_some_iff.1 hx).1
          rw [List.getElem?_map, List.getElem?_range hj] at hx
          simp only [Option.map_some, Option.some.injEq] at hx
          exact ⟨hj, hx.symm⟩
        have hspot : cap = 0 ∨ a.spot = none ∧ a.block < w.heap.size := by
          rcases Nat.eq_zero_or_pos cap with hc | hc
          · exact .inl hc
          right
          have hcell : ∃ v, w.cell? a = some v := by
            by_cases h0 : 0 < len
            · obtain ⟨y, cs, q1, q2, q3⟩ := hf 0 h0
              obtain ⟨g1, g2⟩ := cells?_get q2
              have := g2 0 hpos
              rw [List.getElem?_eq_getElem (by omega)] at this
              exact ⟨_, by simpa [Addr.add] using this⟩
            · have := hrest 0 (by omega)
              rw [List.getElem?_eq_getElem (by omega)] at this
              obtain ⟨cs, q2, _⟩ := Option.bind_eq_some_iff.1 this
              obtain ⟨g1, g2⟩ := cells?_get q2
              have := g2 0 hpos
              rw [List.getElem?_eq_getElem (by omega), show len + 0 = 0 by omega] at this
              exact ⟨_, by simpa [Addr.add] using this⟩
          obtain ⟨v, hv⟩ := hcell
          unfold World.cell? at hv
          split at hv
          · rename_i hw
            split at hv
            · cases hv
            · rename_i hs
              exact ⟨by simpa using hs, (Array.getElem?_eq_some_iff.1 hw).1⟩
          · cases hv
        refine ⟨[.sl i.size ((List.range len).map f)], ⟨⟨a, cap, by simp, hspot, by simpa using hl, ?_⟩, trivial⟩, .inr ⟨_, rfl, by simp only [List.length_map, List.length_range]; omega, fun x hx => ?_⟩, ?_⟩
        · refine RowsRel.of_get fun j x hx => ?_
          obtain ⟨hj, rfl⟩ := hfget j x hx
          obtain ⟨y, cs, q1, q2, q3, q4, q5⟩ := hf j hj
          obtain ⟨g1, g2⟩ := cells?_get q2
          have hlx : (f j).length = i.size := by rw [← q3.length, g1]
          refine ⟨hlx, RowRel.of_get fun l d hd => ?_⟩
          obtain ⟨v, e1, e2⟩ := q3.get hd
          have hll : l < i.size := by rw [← hlx]; exact (List.getElem?_eq_some_iff.1 hd).1
          have := g2 l hll
          rw [e1] at this
          obtain ⟨hsn, _⟩ := hspot.resolve_left (by omega)
          rw [add_of hsn, add_mk] at this
          exact ⟨v, this, e2⟩
        · obtain ⟨j, hj0⟩ := List.getElem?_of_mem hx
          obtain ⟨hj, rfl⟩ := hfget j x hj0
          obtain ⟨y, cs, q1, q2, q3, q4, q5⟩ := hf j hj
          exact q4
        · have hall : All2 (fun (d : DataW H) (x : List D) => bulkL x ≤ B.one d) (elems.map (·.1)) ((List.range len).map f) := by
            refine All2.of_get (by simp [hlen]) fun j d x hd hx => ?_
            obtain ⟨hj, rfl⟩ := hfget j x hx
            obtain ⟨y, cs, q1, q2, q3, q4, q5⟩ := hf j hj
            rw [List.getElem?_map, q1] at hd
            simp only [Option.map_some, Option.some.injEq] at hd
            rw [← hd]
            exact q5
          have := bulk_all B _ _ hall
          simp only [bulkL, bulkD, B.slice]
          omega
      · cases hpos
    · rename_i size bytes fs zero hti
      obtain ⟨d, hd, hk, _⟩ := run_underlying' (w := w) (hT.T _ _ hti)
      obtain ⟨fields, rfl, rfl⟩ := tk_struct hk
      obtain ⟨xs, m, _, rfl, hlen, hxl, hget⟩ := DataW.trod_struct hd h
      have hsz : P.cellsOf t = size := by
        obtain ⟨info, d, g1, g2, g3, _⟩ := tiOf_parts (hT.T _ _ hti)
        simp only at g3
        simp [Program.cellsOf, g1, g3]
      obtain ⟨ds, g1, g2, g3⟩ := read_fields hT B (hlen.trans hsz) (fun t cs x hp hx => ih t m cs x hp hx) fields.toList 0 xs hp (Nat.zero_le _) (by simpa using hxl) (fun i f hf => hget i f (by simpa using hf))
      refine ⟨ds, by simpa using g1, g2, ?_⟩
      rw [B.agg]
      omega
    · cases hp
/-! ## The arguments -/
def toSV (cfg : Cfg) (t : TypeId) (ds : List D) : SV :=
  match cfg.ti t with
  | some i => if i.kind.agg then .agg (ds.map .d) else .one (.d (ds.headD .nil))
  | none => .undef
theorem All2_map {α β γ : Type} {R : α → γ → Prop} (f : β → γ) : ∀ {as : List α} {bs : List β}, All2 (fun a b => R a (f b)) as bs → All2 R as (bs.map f)
  | [], [], _ => trivial
  | _ :: _, _ :: _, h => ⟨h.1, All2_map f h.2⟩
theorem not_agg {r : Reach} {base : Nat} {t : TypeId} {v : Value} {d : TypeDesc} (hd : P.underlying t = some d) (hk : (tk d).agg = false) (hne : tk d = .bool ∨ (∃ k, tk d = .int k) ∨ tk d = .str ∨ ∃ e, tk d = .slice e) (h : Value.okWide P w r base t v) : isOne v = true := by
  have : ∃ x, d = .bool ∨ d = .string ∨ (∃ k, d = .int k) ∨ d = .slice x := by
    rcases hne with h | ⟨k, h⟩ | h | ⟨e, h⟩
    · exact ⟨0, .inl (tk_bool h)⟩
    · exact ⟨0, .inr (.inr (.inl ⟨k, tk_int h⟩))⟩
    · exact ⟨0, .inr (.inl (tk_str h))⟩
    · exact ⟨e, .inr (.inr (.inr (tk_slice h)))⟩
  obtain ⟨x, h1⟩ := this
  rcases h1 with rfl | rfl | ⟨k, rfl⟩ | rfl <;>
  · simp only [Value.okWide, hd, Cell.okWide, Cell.ok] at h
    cases v <;> first | rfl | (exact h.elim)
theorem read_arg (hT : Tabs P cfg) (B : Bulk H) {n : Nat} {t : TypeId} {v : Value} {d : DataW H} {ps : List MemPlace} {r : Reach} {base : Nat} (hp : plainT cfg n t = true) (hval : Value.okWide P w r base t v) (h : DataW.Trod enc P w 0 (fun _ => true) held t v d ps) :
    ∃ ds, WfD cfg n t ds ∧ bulkL ds ≤ B.one d ∧ argOk (toSV cfg t ds) = true ∧ ∀ (K : Ctx) (β : Key → Option Nat) (s : St) (a : Act), SVRel (CRel K β (fun b => b < w.heap.size) s a w) v (toSV cfg t ds) := by
  obtain ⟨fuel, hf⟩ := h
  obtain ⟨ds, h1, h2, h3⟩ := read_data hT B n t fuel _ _ hp hf
  refine ⟨ds, h2, h3, ?_⟩
  cases n with
  | zero => simp [plainT] at hp
  | succ n =>
  have hone : ∀ (i : TI), cfg.ti t = some i → i.kind.agg = false → (i.kind = .bool ∨ (∃ k, i.kind = .int k) ∨ i.kind = .str ∨ ∃ e, i.kind = .slice e) →
      argOk (toSV cfg t ds) = true ∧ ∀ (K : Ctx) (β : Key → Option Nat) (s : St) (a : Act), SVRel (CRel K β (fun b => b < w.heap.size) s a w) v (toSV cfg t ds) := by
    intro i hi ha hk
    obtain ⟨d, hd, hk2, _⟩ := run_underlying' (w := w) (hT.T _ _ hi)
    rw [← hk2] at ha hk
    have h1v := not_agg hd ha hk hval
    rw [cells_of_isOne h1v] at h1
    match ds, h1 with
    | [x], h1 =>
      rw [hk2] at ha
      simp only [toSV, hi, ha]
      exact ⟨rfl, fun K β s a => ⟨h1v, h1.1⟩⟩
  simp only [plainT] at hp
  split at hp
  · rename_i hi; exact hone _ hi rfl (.inl rfl)
  · rename_i hi; exact hone _ hi rfl (.inr (.inl ⟨_, rfl⟩))
  · rename_i hi; exact hone _ hi rfl (.inr (.inr (.inl rfl)))
  · rename_i hi; exact hone _ hi rfl (.inr (.inr (.inr ⟨_, rfl⟩)))
  · rename_i size bytes fs zero hi
    obtain ⟨d, hd, hk, _⟩ := run_underlying' (w := w) (hT.T _ _ hi)
    obtain ⟨fields, rfl, rfl⟩ := tk_struct hk
    simp only [Value.okWide, hd] at hval
    obtain ⟨cs, rfl, _⟩ := hval
    simp only [toSV, hi, TK.agg, if_true]
    refine ⟨by simp [argOk, SV.cells, argOkC], fun K β s a => ⟨cs, rfl, All2_map _ h1⟩⟩
  · cases hp
end
end Go.Vs
/- A law's function that keeps its contract: what the statement says of it. -/
namespace Go.Vs
open Go.ChangeShapes Go.RowKit
def svsOf (cfg : Cfg) : List TypeId → List (List D) → List SV
  | t :: ts, ds :: dss => toSV cfg t ds :: svsOf cfg ts dss
  | _, _ => []
section
variable {H : Type} {enc : TypeId × Value → H} {P : Program} {W : World} {cfg : Cfg}
theorem svs_length : ∀ (ts : List TypeId) (dss : List (List D)), dss.length = ts.length → (svsOf cfg ts dss).length = ts.length
  | [], [], _ => rfl
  | t :: ts, ds :: dss, h => by simp [svsOf, svs_length ts dss (by simpa using h)]
  | [], _ :: _, h => by simp at h
  | _ :: _, [], h => by simp at h
theorem read_args (hT : Tabs P cfg) (B : Bulk H) (n : Nat) {r : Reach} {base : Nat} : ∀ (ts : List TypeId) (vs : List Value) (ds : List (DataW H)) (ps : List MemPlace), (∀ t ∈ ts, plainT cfg n t = true) →
    (∀ (j : Nat) t v, ts[j]? = some t → vs[j]? = some v → Value.okWide P W r base t v) → DataW.TrodAll enc P W 0 (fun _ => true) true ts vs ds ps →
    ds.length = ts.length ∧ vs.length = ts.length ∧ ∃ dss, dss.length = ts.length ∧ All2 (fun t x => WfD cfg n t x) ts dss ∧ bulkLL dss ≤ B.all ds ∧ (svsOf cfg ts dss).all argOk = true ∧
      ∀ (K : Ctx) (β : Key → Option Nat) (s : St) (a : Act) (i : Nat), SVRel (CRel K β (fun b => b < W.heap.size) s a W) (vs.getD i undef) ((svsOf cfg ts dss).getD i .undef) := by
  intro ts
  induction ts with
  | nil =>
    intro vs ds ps _ _ h
    obtain ⟨rfl, rfl, _⟩ := trodAll_nil h
    exact ⟨rfl, rfl, [], rfl, trivial, by simp [bulkLL], rfl, fun _ _ _ _ i => by simp [svsOf, SVRel]⟩
  | cons t ts ih =>
    intro vs ds ps hp hval h
    obtain ⟨v, vs', d, ds', p, q, rfl, rfl, rfl, hd, hr⟩ := trodAll_cons h
    obtain ⟨x, x1, x2, x3, x4⟩ := read_arg (w := W) hT B (hp t (List.mem_cons_self ..)) (hval 0 t v rfl rfl) hd
    obtain ⟨l1, l2, dss, h1, h2, h3, h4, h5⟩ := ih vs' ds' q (fun t ht => hp t (List.mem_cons_of_mem _ ht)) (fun j t v ht hv => hval (j + 1) t v (by simpa using ht) (by simpa using hv)) hr
    refine ⟨by simp [l1], by simp [l2], x :: dss, by simp [h1], ⟨x1, h2⟩, ?_, ?_, fun K β s a i => ?_⟩
    · simp only [bulkLL, B.cons]; omega
    · simp only [svsOf, List.all_cons, Bool.and_eq_true]; exact ⟨x3, h4⟩
    · cases i with
      | zero => exact x4 K β s a
      | succ i => exact h5 K β s a i
theorem args_again {W' : World} (hl : laidOutB P = true) (hb : Below W.heap.size W W') : ∀ (ts : List TypeId) (vs : List Value) (ds : List (DataW H)) (ps : List MemPlace), (∀ t ∈ ts, P.readableRec t = true ∧ t < P.types.size) → (∀ x ∈ ps, x.block < W.heap.size) →
    DataW.TrodAll enc P W 0 (fun _ => true) true ts vs ds ps → DataW.TrodAll enc P W' 0 (fun b => decide (b < W.heap.size)) true ts vs ds ps := by
  intro ts
  induction ts with
  | nil => intro vs ds ps _ _ h; obtain ⟨rfl, rfl, rfl⟩ := trodAll_nil h; exact trodAll_mk0
  | cons t ts ih =>
    intro vs ds ps hp hlt h
    obtain ⟨v, vs', d, ds', p, q, rfl, rfl, rfl, hd, hr⟩ := trodAll_cons h
    obtain ⟨g1, g2⟩ := hp t (List.mem_cons_self ..)
    exact trodAll_cons_mk (Below.trod hl g1 g2 hd hb fun x hx => hlt x (List.mem_append_left _ hx)) (ih vs' ds' q (fun t ht => hp t (List.mem_cons_of_mem _ ht)) (fun x hx => hlt x (List.mem_append_right _ hx)) hr)
/-- THE LAW's CONTRACT: it returns true, and nothing that was there has changed. -/
theorem law_contract {base : Nat} {args : Array Value} {ds gs : List (DataW H)} {before : List MemPlace} {f : FuncId} {fn : Func} {sp : ChangeSpec} {F : AFun} {n : Nat} {ts : List TypeId} {tb : TypeId}
    (hF : FnCalls P f F) (hT : Tabs P cfg) (hvars : sp.vars = []) (hparams : fn.params.toList = ts) (hrt : fn.resultTypes = #[tb]) (hbool : P.underlying tb = some .bool)
    (hplain : ∀ t ∈ ts, plainT cfg n t = true) (hlaid : laidOutB P = true) (hread : ∀ t ∈ ts, P.readableRec t = true ∧ t < P.types.size) (B : Bulk H)
    (hres : ∀ dss, dss.length = ts.length → All2 (fun t x => WfD cfg n t x) ts dss → bulkLL dss ≤ B.all ds → F (svsOf cfg ts dss) [] = some { v := .one (.d (.bool true)), boxes := [], frz := [] })
    (hfn : ∀ ds : List (DataW H), ds.length = ts.length → sp.fn H (ds ++ []) = { results := [.lit (.bool true)], args := ds })
    (hval : ∀ (j : Nat) t v, fn.params[j]? = some t → args[j]? = some v → Value.okWide P W .any base t v)
    (hW : DataW.Whole enc P fn.params.toList sp.vars false W args.toList ds gs before) :
    Calls P f args W fun e W' => ∃ v, e = .returned v ∧ sp.post enc P fn false true false false W args v W' := by
  have hlt := hW.lt
  have hW' := hW
  obtain ⟨p, q, hA, hV, rfl, hfz, hnd⟩ := hW
  rw [hvars] at hV
  obtain ⟨rfl, rfl⟩ := trodVars_none hV
  rw [hparams] at hA
  obtain ⟨l1, l2, dss, h1, h2, h3, h4, h5⟩ := read_args hT B n ts args.toList ds p hplain (fun j t v ht hv => hval j t v (by rw [← hparams] at ht; simpa using ht) (by simpa using hv)) hA
  have hent : Rel (ctxOf P 0 W args (fun _ => none) (fun _ => none) (fun b => b < W.heap.size)) (fun _ => none) (fun _ => none) (fun b => b < W.heap.size) (entrySt (svsOf cfg ts dss) []) { tmps := #[], defers := [] } W := by
    have hboxv : ∀ k, (entrySt (svsOf cfg ts dss) [] (.box k)).v = .undef := by intro k; cases k <;> simp [entrySt]
    refine ⟨rfl, rfl, rfl, rfl, rfl, Nat.le_refl _, fun _ _ _ => rfl, fun _ h => h, fun _ h => h, fun b hb => .inl hb, ?_, ?_, ?_, ?_, ?_, ?_, fun _ _ h => h⟩
    · intro t; exact trivial
    · intro i
      have := h5 (ctxOf P 0 W args (fun _ => none) (fun _ => none) (fun b => b < W.heap.size)) (fun _ => none) (entrySt (svsOf cfg ts dss) []) { tmps := #[], defers := [] } i
      have e : args.toList.getD i undef = args.getD i undef := by simp [List.getD_eq_getElem?_getD, Array.getD_eq_getD_getElem?]
      rw [e] at this
      exact this
    · intro k
      rw [hboxv]
      exact rfl
    · intro r j e xs ad len cap hr hc hh
      cases r with
      | tmp t => simp [entrySt, SV.cells] at hc
      | arg i => simp [Res.isArg] at hr
      | box k => rw [hboxv] at hc; simp [SV.cells] at hc
    · intro i j e xs ad len cap hc hh
      exfalso
      have hc' : ((svsOf cfg ts dss).getD i .undef).cells[j]? = some (.own e xs) := hc
      have key : ∀ (ts : List TypeId) (dss : List (List D)) (i j : Nat), ((svsOf cfg ts dss).getD i .undef).cells[j]? ≠ some (.own e xs) := by
        intro ts
        induction ts with
        | nil => intro dss i j; simp [svsOf, SV.cells]
        | cons t ts ih =>
          intro dss i j
          cases dss with
          | nil => simp [svsOf, SV.cells]
          | cons x dss =>
            cases i with
            | zero =>
              simp only [svsOf, List.getD_cons_zero, toSV]
              split
              · split
                · simp only [SV.cells, List.getElem?_map]
                  cases x[j]? <;> simp
                · cases j <;> simp [SV.cells]
              · simp [SV.cells]
            | succ i => simpa [svsOf] using ih dss i j
      exact key ts dss i j hc'
    · intro b g h; cases h
  have hsz : args.size = (svsOf cfg ts dss).length := by rw [svs_length _ _ h1, ← l2]; simp
  refine (hF _ _ _ (hres dss h1 h2 h3) W args _ _ _ hsz h4 rfl hent).mono ?_
  rintro e W' ⟨v, β', ω', Z', rfl, hr⟩
  have hv : v = .bool true := by
    have := hr.tmps 0
    exact this.2
  subst hv
  have hbelow : Below W.heap.size W W' := ⟨hr.os, hr.tape, hr.output, hr.base, fun k hk => hr.frame k hk (fun h => h rfl)⟩
  refine ⟨_, rfl, ds, [], p ++ [], [], p, [], hW', ?_, ?_, ?_, hbelow.frame _, fun h => by cases h⟩
  · rw [hfn ds l1, hrt]
    exact trodAll_cons_mk (shut_bool hbool _) trodAll_mk0
  · rw [hfn ds l1, hparams]
    exact args_again hlaid hbelow ts _ ds p hread (fun x hx => hlt x (List.mem_append_left _ hx)) hA
  · rw [hfn ds l1, hvars]
    rfl
end
end Go.Vs
