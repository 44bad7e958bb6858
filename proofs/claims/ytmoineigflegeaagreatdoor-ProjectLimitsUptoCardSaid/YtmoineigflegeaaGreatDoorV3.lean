/- An evaluator of this program's code over plain values, proved sound: part 3. -/
import Derived.Scope
import Derived.Defers
import Derived.KernelRfl
import Derived.Deep.Slices
import Derived.ChangeArms
import Derived.Carry
import Derived.RowKit
import Derived.OpenShut
import Derived.ChangeOld
import Derived.Test.YtmoineigflegeaaGreatDoorV2
namespace Go.Vs
noncomputable section
def Prog.both {α : Type} : Prog α → St → Option (α × St × List Res × List Res)
 | .ret a, s => some (a, s, [], [])
 | .fail, _ => none
 | .get r k, s => match (k (s r)).both s with
  | some (a, s', f, g) => some (a, s', r :: f, g)
  | none => none
 | .put r x k, s => match k.both (s.set r x) with
  | some (a, s', f, g) => some (a, s', f, r :: g)
  | none => none
theorem both_spec {α : Type} (p : Prog α) : ∀ (s : St), p.both s = (p.exec s).map fun x => (x.1, x.2, p.foot s) := by
 induction p with
 | ret a => intro s; rfl
 | fail => intro s; rfl
 | get r k ih =>
  intro s
  simp only [Prog.both, Prog.exec, Prog.foot, ih]
  cases (k (s r)).exec s <;> rfl
 | put r x k ih =>
  intro s
  simp only [Prog.both, Prog.exec, Prog.foot, ih]
  cases k.exec (s.set r x) <;> rfl
def runBoth (cfg : Cfg) (ops : Array Oper) : List Oper → St → Option (St × List (List Res × List Res))
 | [], s => some (s, [])
 | o :: r, s => match (astep cfg ops o).both s with
  | some (_, s', f, g) => match runBoth cfg ops r s' with
   | some (s'', l) => some (s'', (f, g) :: l)
   | none => none
  | none => none
theorem runBoth_spec (cfg : Cfg) (ops : Array Oper) : ∀ (l : List Oper) (s s' : St) (fps : List (List Res × List Res)), runBoth cfg ops l s = some (s', fps) → runOps cfg ops l s = some s' ∧ fpsOf cfg ops l s = some fps := by
 intro l
 induction l with
 | nil => intro s s' fps h; simp only [runBoth, Option.some.injEq, Prod.mk.injEq] at h; obtain ⟨rfl, rfl⟩ := h; exact ⟨rfl, rfl⟩
 | cons o l ih =>
  intro s s' fps h
  simp only [runBoth, both_spec] at h
  simp only [runOps, fpsOf]
  cases he : (astep cfg ops o).exec s with
  | none => rw [he] at h; cases h
  | some x =>
   rw [he] at h
   simp only [Option.map_some] at h
   cases hr : runBoth cfg ops l x.2 with
   | none => rw [hr] at h; cases h
   | some y =>
    rw [hr] at h
    simp only [Option.some.injEq, Prod.mk.injEq] at h
    obtain ⟨rfl, rfl⟩ := h
    obtain ⟨h1, h2⟩ := ih x.2 y.1 y.2 hr
    exact ⟨h1, by simp only [h2]⟩
def drawOk (ops : Array Oper) (fps : List (List Res × List Res)) : Bool := edgesOk ops && pairsOk fps (ancs ops)
inductive Ex where
 | normal | exit (id : Nat) | ret
 deriving DecidableEq
def condVal (c : Operand) (p : PS) : Option Bool :=
 match c with
 | .tmp t => match lk t p.slots with | some (.one (.d (.bool b))) => some b | _ => none
 | .const (.bool b) => some b
 | _ => none
def forget (live : List Nat) (bl : List Key) (p : PS) : PS := fin p.st live bl p.args.length
def Key.isIn : Key → Bool | .inb _ => true | _ => false
def keepsIn (bk bl : List Key) : Bool := bk.all fun k => !k.isIn || bl.contains k
structure VF where
 cfg : Cfg
 keys : List Nat
 bkeys : List Key
def afterRegion (F : VF) (n : Nat) (K : PS → Prop) : Option St → Prop
 | some s => K (fin s F.keys F.bkeys n)
 | none => False
def afterBoth (F : VF) (ops : Array Oper) (n : Nat) (K : PS → Prop) : Option (St × List (List Res × List Res)) → Prop
 | some (s, fps) => drawOk ops fps = true ∧ K (fin s F.keys F.bkeys n)
 | none => False
def LoopW (bk : List Key) (B : PS → (Ex → PS → Prop) → Prop) (p : PS) (Q : Ex → PS → Prop) : Prop :=
 ∃ (live : List Nat) (bl : List Key) (I : PS → Prop) (μ : PS → Nat), keepsIn bk bl = true ∧ I (forget live bl p) ∧ ∀ q, I q → B q fun e q' => match e with
   | .normal => I (forget live bl q') ∧ μ (forget live bl q') < μ q
   | e => Q e q'
@[congr] theorem LoopW.same {bk : List Key} {B : PS → (Ex → PS → Prop) → Prop} {p p' : PS} {Q : Ex → PS → Prop} (h : p = p') : LoopW bk B p Q = LoopW bk B p' Q := by rw [h]
def awp (F : VF) : Code → PS → (Ex → PS → Prop) → Prop
 | .skip, p, Q => Q .normal p
 | .region _ ops false, p, Q => afterRegion F p.args.length (fun p' => Q .normal p') (runOps F.cfg ops ops.toList p.st)
 | .region _ ops true, p, Q => afterBoth F ops p.args.length (fun p' => Q .normal p') (runBoth F.cfg ops ops.toList p.st)
 | .seq a b, p, Q => awp F a p fun e p' => match e with | .normal => awp F b p' Q | e => Q e p'
 | .cond c x y, p, Q => match condVal c p with | some b => (b = true → awp F x p Q) ∧ (b = false → awp F y p Q) | none => False
 | .block id b, p, Q => awp F b p fun e p' => match e with | .exit i => if i = id then Q .normal p' else Q (.exit i) p' | e => Q e p'
 | .loop b, p, Q => LoopW F.bkeys (awp F b) p Q
 | .scope b, p, Q => awp F b p Q
 | .exit id, p, Q => Q (.exit id) p
 | .ret, p, Q => Q .ret p
 | _, _, _ => False
theorem lk_cons {α : Type} (t u : Nat) (v : α) (r : List (Nat × α)) : lk t ((u, v) :: r) = if t = u then some v else lk t r := rfl
theorem lk_finSlots (s : St) (bk : List Key) (t : Nat) : ∀ (ks : List Nat), ((lk t (finSlots s bk ks)).getD .undef) = if t ∈ ks then stlSV s bk (s (.tmp t)).v else .undef
 | [] => rfl
 | u :: ks => by
  simp only [finSlots]
  have ih := lk_finSlots s bk t ks
  by_cases htu : t = u
  ·subst htu
   simp only [List.mem_cons, true_or, if_true]
   cases hv : stlSV s bk (s (.tmp t)).v with
   | undef =>
    simp only [consSlot]
    rw [ih, hv]
    split <;> rfl
   | _ => simp [consSlot, lk_cons]
  ·have : lk t (consSlot u (stlSV s bk (s (.tmp u)).v) (finSlots s bk ks)) = lk t (finSlots s bk ks) := by
    cases stlSV s bk (s (.tmp u)).v <;> simp [consSlot, lk_cons, htu]
   rw [this, ih]
   simp [htu]
theorem lkK_finBoxes (s : St) (bk : List Key) (k : Key) : ∀ (ks : List Key), (match lkK k (finBoxes s bk ks) with | some cs => SV.agg cs | none => .undef) = if k ∈ ks then (match (s (.box k)).v with | .agg cs => .agg (stls s bk cs) | _ => .undef) else .undef
 | [] => rfl
 | u :: ks => by
  simp only [finBoxes]
  have ih := lkK_finBoxes s bk k ks
  by_cases hku : k = u
  ·subst hku
   simp only [List.mem_cons, true_or, if_true]
   cases hv : (s (.box k)).v with
   | agg cs => simp [stlSV, consBox, lkK]
   | one c =>
    simp only [stlSV, consBox]
    rw [ih]
    split <;> simp [hv]
   | tup c =>
    simp only [stlSV, consBox]
    rw [ih]
    split <;> simp [hv]
   | undef =>
    simp only [stlSV, consBox]
    rw [ih]
    split <;> simp [hv]
  ·have : (match lkK k (consBox u (stlSV s bk (s (.box u)).v) (finBoxes s bk ks)) with | some cs => SV.agg cs | none => .undef) = (match lkK k (finBoxes s bk ks) with | some cs => SV.agg cs | none => .undef) := by
    cases (stlSV s bk (s (.box u)).v) <;> simp [consBox, lkK, hku]
   rw [this, ih]
   simp [hku]
theorem finArgs_get (s : St) (bk : List Key) : ∀ (n i0 i : Nat), (finArgs s bk i0 n).getD i .undef = if i < n then stlSV s bk (s (.arg (i0 + i))).v else .undef
 | 0, i0, i => by simp [finArgs]
 | n + 1, i0, 0 => by simp [finArgs]
 | n + 1, i0, i + 1 => by
  have := finArgs_get s bk n (i0 + 1) i
  simp only [finArgs, List.getD_cons_succ, this]
  rw [show i0 + 1 + i = i0 + (i + 1) by omega]
  simp
theorem finArgs_length (s : St) (bk : List Key) : ∀ (n i0 : Nat), (finArgs s bk i0 n).length = n
 | 0, _ => rfl
 | n + 1, i0 => by simp [finArgs, finArgs_length s bk n]
theorem fin_tmp (s : St) (keys : List Nat) (bk : List Key) (n t : Nat) : ((fin s keys bk n).st (.tmp t)).v = if t ∈ keys then stlSV s bk (s (.tmp t)).v else .undef := lk_finSlots s bk t keys
theorem fin_box (s : St) (keys : List Nat) (bk : List Key) (n : Nat) (k : Key) : ((fin s keys bk n).st (.box k)).v = if k ∈ bk then (match (s (.box k)).v with | .agg cs => .agg (stls s bk cs) | _ => .undef) else .undef := lkK_finBoxes s bk k bk
theorem fin_arg (s : St) (keys : List Nat) (bk : List Key) (n i : Nat) : ((fin s keys bk n).st (.arg i)).v = if i < n then stlSV s bk (s (.arg i)).v else .undef := by
 have := finArgs_get s bk n 0 i
 simp only [Nat.zero_add] at this
 exact this
theorem ps_hv (p : PS) (r : Res) : (p.st r).hv = 0 ∧ (p.st r).cv = 0 := by cases r <;> exact ⟨rfl, rfl⟩
theorem stls_get (s : St) (bk : List Key) : ∀ (cs : List C) (j : Nat), (stls s bk cs)[j]? = (cs[j]?).map (stl s bk)
 | [], _ => by simp [stls]
 | c :: cs, 0 => by simp [stls]
 | c :: cs, j + 1 => by simp only [stls, List.getElem?_cons_succ]; exact stls_get s bk cs j
theorem stls_length (s : St) (bk : List Key) : ∀ (cs : List C), (stls s bk cs).length = cs.length
 | [] => rfl
 | c :: cs => by simp [stls, stls_length s bk cs]
theorem stls_append (s : St) (bk : List Key) : ∀ (l m : List C), stls s bk (l ++ m) = stls s bk l ++ stls s bk m
 | [], m => rfl
 | c :: l, m => by simp [stls, stls_append s bk l m]
theorem stlTup_flat (s : St) (bk : List Key) : ∀ (vs : List (Bool × List C)), (stlTup s bk vs).flatMap (·.2) = stls s bk (vs.flatMap (·.2))
 | [] => rfl
 | (b, cs) :: vs => by simp [stlTup, stls_append, stlTup_flat s bk vs]
theorem stlSV_cells (s : St) (bk : List Key) (v : SV) : (stlSV s bk v).cells = stls s bk v.cells := by
 cases v with
 | one c => rfl
 | agg cs => rfl
 | tup vs => simp only [stlSV, SV.cells, stlTup_flat]
 | undef => rfl
theorem stlTup_shape (s : St) (bk : List Key) : ∀ {us : List Value} {vs : List (Bool × List C)}, All2 (TRel Tru) us vs → All2 (TRel Tru) us (stlTup s bk vs)
 | [], [], _ => trivial
 | u :: us, (b, cs) :: vs, h => by
  refine ⟨?_, stlTup_shape s bk h.2⟩
  have h1 := h.1
  unfold TRel at h1 ⊢
  cases b with
  | true =>
   simp only [if_true] at h1 ⊢
   obtain ⟨ws, rfl, g⟩ := h1
   exact ⟨ws, rfl, All2.of_get (by rw [g.length, stls_length]) fun _ _ _ _ _ => trivial⟩
  | false =>
   simp only [Bool.false_eq_true, if_false] at h1 ⊢
   obtain ⟨c, rfl, g, _⟩ := h1
   exact ⟨stl s bk c, by simp [stls], g, trivial⟩
theorem stlSV_shape {s : St} {bk : List Key} {u : Value} {v : SV} (h : SVRel Tru u v) : SVRel Tru u (stlSV s bk v) := by
 cases v with
 | one c => exact ⟨h.1, trivial⟩
 | agg cs => obtain ⟨ws, h1, h2⟩ := h; exact ⟨ws, h1, All2.of_get (by rw [h2.length, stls_length]) fun _ _ _ _ _ => trivial⟩
 | tup vs => obtain ⟨ws, h1, h2⟩ := h; exact ⟨ws, h1, stlTup_shape s bk h2⟩
 | undef => trivial
theorem stl_own {s : St} {bk : List Key} {c : C} {e : Nat} {xs : List (List D)} (h : stl s bk c = .own e xs) : c = .own e xs := by
 cases c <;> simp only [stl] at h <;> first | exact h | (split at h <;> cases h) | cases h
theorem stl_d {s : St} {bk : List Key} {c : C} {d : D} (h : stl s bk c = .d d) : c = .d d := by
 cases c <;> simp only [stl] at h <;> first | exact h | (split at h <;> cases h) | cases h
theorem stl_alive {s : St} {bk : List Key} {c : C} (h : stl s bk c ≠ .dead) : c ≠ .dead := by rintro rfl; exact h rfl
section
variable {K : Ctx} {β : Key → Option Nat} {ω : Nat → Option Holder} {Z : Nat → Prop} {s : St} {a : Act} {w : World}
theorem Rel.fin (h : Rel K β ω Z s a w) (keys : List Nat) (bk : List Key) {n : Nat} (hn : n = K.argv.size) (hin : ∀ k b, K.β0 k = some b → k ∈ bk) : ∃ β', Rel K β' ω Z (fin s keys bk n).st a w := by
 generalize hs' : (Vs.fin s keys bk n).st = s'
 have ht : ∀ t, (s' (.tmp t)).v = if t ∈ keys then stlSV s bk (s (.tmp t)).v else .undef := fun t => by rw [← hs']; exact fin_tmp ..
 have hb : ∀ k, (s' (.box k)).v = if k ∈ bk then (match (s (.box k)).v with | .agg cs => .agg (stls s bk cs) | _ => .undef) else .undef := fun k => by rw [← hs']; exact fin_box ..
 have ha : ∀ i, (s' (.arg i)).v = if i < n then stlSV s bk (s (.arg i)).v else .undef := fun i => by rw [← hs']; exact fin_arg ..
 have hz : ∀ r, (s' r).hv = 0 ∧ (s' r).cv = 0 := fun r => by rw [← hs']; exact ps_hv _ r
 have hcells : ∀ (r : Res) (j : Nat) (c : C), (s' r).v.cells[j]? = some c → (∃ c0, (s r).v.cells[j]? = some c0 ∧ c = stl s bk c0) ∧ (∀ k, r = .box k → k ∈ bk ∧ ∃ cs, (s r).v = .agg cs) := by
  intro r j c hc
  cases r with
  | tmp t =>
   rw [ht] at hc
   split at hc
   ·rw [stlSV_cells, stls_get] at hc
    cases hc0 : (s (.tmp t)).v.cells[j]? with
    | none => rw [hc0] at hc; cases hc
    | some c0 => rw [hc0] at hc; simp only [Option.map_some, Option.some.injEq] at hc; exact ⟨⟨c0, rfl, hc.symm⟩, by simp⟩
   ·simp [SV.cells] at hc
  | box k =>
   rw [hb] at hc
   split at hc
   ·rename_i hk
    cases hv : (s (.box k)).v with
    | agg cs =>
     rw [hv] at hc
     simp only [SV.cells] at hc
     rw [stls_get] at hc
     cases hc0 : cs[j]? with
     | none => rw [hc0] at hc; cases hc
     | some c0 => rw [hc0] at hc; simp only [Option.map_some, Option.some.injEq] at hc; exact ⟨⟨c0, hc0, hc.symm⟩, fun k' e => by cases e; exact ⟨hk, cs, rfl⟩⟩
    | one c => rw [hv] at hc; simp [SV.cells] at hc
    | tup x => rw [hv] at hc; simp [SV.cells] at hc
    | undef => rw [hv] at hc; simp [SV.cells] at hc
   ·simp [SV.cells] at hc
  | arg i =>
   rw [ha] at hc
   split at hc
   ·rw [stlSV_cells, stls_get] at hc
    cases hc0 : (s (.arg i)).v.cells[j]? with
    | none => rw [hc0] at hc; cases hc
    | some c0 => rw [hc0] at hc; simp only [Option.map_some, Option.some.injEq] at hc; exact ⟨⟨c0, rfl, hc.symm⟩, by simp⟩
   ·simp [SV.cells] at hc
 let β' : Key → Option Nat := fun k => match (s' (.box k)).v with | .agg _ => β k | _ => none
 have hβ' : ∀ k cs, (s' (.box k)).v = .agg cs → β' k = β k := fun k cs hk => by simp only [β', hk]
 have hβn : ∀ k, (s' (.box k)).v = .undef → β' k = none := fun k hk => by simp only [β', hk]
 have hβbk : ∀ k b, β k = some b → k ∈ bk → β' k = some b := by
  intro k b hkb hk
  have hbx := h.boxes k
  cases hv : (s (.box k)).v with
  | agg cs => rw [hβ' k (stls s bk cs) (by rw [hb, if_pos hk, hv])]; exact hkb
  | undef => rw [hv] at hbx; simp only [BoxRel] at hbx; rw [hbx] at hkb; cases hkb
  | one c => rw [hv] at hbx; exact hbx.elim
  | tup x => rw [hv] at hbx; exact hbx.elim
 have hat : ∀ (r : Res) (j : Nat), (s' r).at j ≠ .dead → (s r).at j ≠ .dead ∧ (∀ e ys, (s r).at j = .own e ys → (s' r).at j = .own e ys) ∧ (∀ d, (s r).at j = .d d → (s' r).at j = .d d) ∧ (∀ k, r = .box k → k ∈ bk ∧ ∃ cs, (s r).v = .agg cs) := by
  intro r j hal
  cases hc : (s' r).v.cells[j]? with
  | none => exact absurd (by simp [RV.at, List.getD_eq_getElem?_getD, hc]) hal
  | some c =>
   obtain ⟨⟨c0, h0, h1⟩, h2⟩ := hcells r j c hc
   have e0 := at_of_cells h0
   have e1 := at_of_cells hc
   rw [e1] at hal
   refine ⟨?_, fun e ys ho => ?_, fun d ho => ?_, h2⟩
   ·rw [e0]
    rw [h1] at hal; exact stl_alive hal
   ·rw [e1]; rw [e0] at ho; subst ho; rw [h1]; rfl
   ·rw [e1]; rw [e0] at ho; subst ho; rw [h1]; rfl
 have hhdr : ∀ (r : Res) (j : Nat), (∀ k, r = .box k → k ∈ bk ∧ ∃ cs, (s r).v = .agg cs) → hdr K β' a w r j = hdr K β a w r j := by
  intro r j hr
  cases r with
  | tmp t => rfl
  | arg i => rfl
  | box k =>
   obtain ⟨hk, cs, hv⟩ := hr k rfl
   simp only [hdr]
   rw [hβ' k (stls s bk cs) (by rw [hb, if_pos hk, hv])]
 have hstl : ∀ (c : C) (u : Value), CRel K β Z s a w c u → CRel K β' Z s' a w (stl s bk c) u := by
  intro c u hcu
  cases c with
  | d x => exact hcu
  | own e xs => exact hcu
  | dead => trivial
  | da xs => exact hcu
  | ea r j hv e i off => trivial
  | ptr k off =>
   simp only [stl]
   split
   ·rename_i hk
    obtain ⟨b, g1, g2⟩ := hcu
    exact ⟨b, hβbk k b g1 (by simpa using hk), g2⟩
   ·trivial
  | clo f caps =>
   simp only [stl]
   split
   ·rename_i hk
    obtain ⟨vs, g1, g2⟩ := hcu
    refine ⟨vs, g1, g2.mono_mem fun u p hp ⟨b, q1, q2⟩ => ⟨b, hβbk p.1 b q1 ?_, q2⟩⟩
    have := List.all_eq_true.1 hk p hp
    simpa using this
   ·trivial
  | bor r j hv cv e k xs =>
   simp only [stl]
   split
   ·rename_i hcur
    by_cases hm : isMap e = true
    ·obtain ⟨b, g1, g4, g5, g6⟩ := (CRel.bor_mp hm).1 hcu
     refine (CRel.bor_mp hm).2 ⟨b, g1, by omega, by omega, fun _ hal => ?_⟩
     obtain ⟨q1, q2, q3, q4⟩ := hat r j hal
     obtain ⟨f1, ys, f8, f9⟩ := g6 hcur.1 q1
     refine ⟨by rw [hhdr r j q4]; exact f1, ys, ?_, fun _ => f9 hcur.2⟩
     rcases f8 with f8 | f8
     ·exact .inl (q2 _ _ f8)
     ·exact .inr (q3 _ f8)
    have hm : isMap e = false := by simpa using hm
    obtain ⟨ad', cap', g1, g2, g3, g4, g5, g6⟩ := (CRel.bor_sl hm).1 hcu
    refine (CRel.bor_sl hm).2 ⟨ad', cap', g1, g2, g3, by omega, by omega, fun _ hal => ?_⟩
    obtain ⟨q1, q2, q3, q4⟩ := hat r j hal
    obtain ⟨ad, len, cap, f1, f2, f3, f4, f4b, f5, f6, f7, ys, f8, f9⟩ := g6 hcur.1 q1
    refine ⟨ad, len, cap, by rw [hhdr r j q4]; exact f1, f2, f3, f4, f4b, f5, f6, f7, ys, ?_, fun _ => f9 hcur.2⟩
    rcases f8 with f8 | f8
    ·exact .inl (q2 _ _ f8)
    ·exact .inr (q3 _ f8)
   ·trivial
 have hsv : ∀ (v : SV) (u : Value), SVRel (CRel K β Z s a w) u v → SVRel (CRel K β' Z s' a w) u (stlSV s bk v) := by
  intro v u hv
  refine SVRel.of_flat (stlSV_shape hv.shape) fun hu => ?_
  have hu' : v ≠ .undef := by rintro rfl; exact hu rfl
  have hf := hv.flat hu'
  rw [stlSV_cells]
  refine All2.of_get (by rw [hf.length, stls_length]) fun j x c hx hc => ?_
  rw [stls_get] at hc
  cases hc0 : v.cells[j]? with
  | none => rw [hc0] at hc; cases hc
  | some c0 =>
   rw [hc0] at hc
   simp only [Option.map_some, Option.some.injEq] at hc
   subst hc
   obtain ⟨x', g1, g2⟩ := hf.get hc0
   rw [hx] at g1
   cases g1
   exact hstl c0 x g2
 have hown : ∀ (r : Res) (j e : Nat) (xs : List (List D)), (s' r).v.cells[j]? = some (.own e xs) → (s r).v.cells[j]? = some (.own e xs) ∧ hdr K β' a w r j = hdr K β a w r j := by
  intro r j e xs hc
  obtain ⟨⟨c0, h0, h1⟩, h2⟩ := hcells r j _ hc
  have := stl_own h1.symm
  subst this
  exact ⟨h0, hhdr r j h2⟩
 refine ⟨β', h.size, h.defers, h.os, h.tape, h.output, h.base, h.frame, h.zin, h.zold, ?_, ?_, ?_, ?_, ?_, ?_, h.ωok, ?_⟩
 ·intro b hb'
  rcases h.znew b hb' with g | g | g | ⟨i, j, e, ys, u0, g1, g2, g3⟩
  ·exact .inl g
  ·exact .inr (.inl g)
  ·exact .inr (.inr (.inl g))
  ·refine .inr (.inr (.inr ⟨i, j, e, ys, u0, ?_, g2, g3⟩))
   have hi : i < n := by
    rw [hn]
    by_cases hi : i < K.argv.size
    ·exact hi
    ·exfalso
     rw [Array.getD_eq_getD_getElem?, Array.getElem?_eq_none (by omega)] at g2
     simp [undef, flat] at g2
   rw [ha, if_pos hi, stlSV_cells, stls_get, g1]
   rfl
 ·intro t
  rw [ht]
  split
  ·exact hsv _ _ (h.tmps t)
  ·trivial
 ·intro i
  rw [ha]
  split
  ·exact hsv _ _ (h.args i)
  ·trivial
 ·intro k
  rw [hb]
  by_cases hk : k ∈ bk
  ·rw [if_pos hk]
   have hbx := h.boxes k
   cases hv : (s (.box k)).v with
   | agg cs =>
    obtain ⟨b, ws, el, lo, hi, g1, g2, g3, g4, g5⟩ := BoxRel.cell h hv
    refine ⟨b, ws, el, lo, hi, hβbk k b g1 hk, g2, g3, g4, All2.of_get (by rw [g5.length, stls_length]) fun j u c hu hc => ?_⟩
    rw [stls_get] at hc
    cases hc0 : cs[j]? with
    | none => rw [hc0] at hc; cases hc
    | some c0 =>
     rw [hc0] at hc
     simp only [Option.map_some, Option.some.injEq] at hc
     subst hc
     obtain ⟨u', q1, q2⟩ := g5.get hc0
     rw [hu] at q1
     cases q1
     exact hstl c0 u q2
   | undef => exact hβn k (by rw [hb, if_pos hk, hv])
   | one c => rw [hv] at hbx; exact hbx.elim
   | tup x => rw [hv] at hbx; exact hbx.elim
  ·rw [if_neg hk]
   exact hβn k (by rw [hb, if_neg hk])
 ·intro r j e xs u1 b1 hr hc hh hb1
  obtain ⟨g1, g2⟩ := hown r j e xs hc
  rw [g2] at hh
  exact h.own r j e xs u1 b1 hr g1 hh hb1
 ·intro i j e xs u1 b1 hc hh hb1
  exact h.argown i j e xs u1 b1 (hown (.arg i) j e xs hc).1 hh hb1
 ·intro k b hb'
  exact hβbk k b (h.βold k b hb') (hin k b hb')
end
end
end Go.Vs
namespace Go.Vs
def exOf : Ex → Exit
 | .normal => .normal
 | .exit i => .exit i
 | .ret => .ret
def PRel (K : Ctx) (p : PS) (a : Act) (w : World) : Prop := Good K p.st a w ∧ p.args.length = K.argv.size
def Post (K : Ctx) (Q : Ex → PS → Prop) (e : Exit) (a : Act) (w : World) : Prop := ∃ x p, e = exOf x ∧ Q x p ∧ PRel K p a w
def KeyOK (K : Ctx) (F : VF) : Prop := ∀ k b, K.β0 k = some b → k.isIn = true ∧ k ∈ F.bkeys
section
variable {K : Ctx} {F : VF}
theorem PRel.fin {p : PS} {s : St} {a : Act} {w : World} (hl : p.args.length = K.argv.size) (hg : Good K s a w) {keys : List Nat} {bk : List Key} (hin : ∀ k b, K.β0 k = some b → k ∈ bk) : PRel K (fin s keys bk p.args.length) a w := by
 obtain ⟨β, ω, Z, h⟩ := hg
 obtain ⟨β', h'⟩ := h.fin keys bk hl hin
 refine ⟨⟨β', ω, Z, h'⟩, ?_⟩
 rw [← hl]
 exact finArgs_length ..
theorem PRel.forget (hk : KeyOK K F) {p : PS} {a : Act} {w : World} (h : PRel K p a w) {live : List Nat} {bl : List Key} (hb : keepsIn F.bkeys bl = true) : PRel K (forget live bl p) a w := by
 refine PRel.fin h.2 h.1 fun k b hkb => ?_
 obtain ⟨h1, h2⟩ := hk k b hkb
 have := List.all_eq_true.1 hb k h2
 simpa [h1] using this
theorem awp_sound (hC : COK K.P F.cfg) (hN : K.N = F.cfg.N) (hmix : K.P.follows .mixedOrders = true) (hk : KeyOK K F) : ∀ (c : Code) (p : PS) (Q : Ex → PS → Prop) (a : Act) (w : World), awp F c p Q → PRel K p a w → c.wp K.P (Post K Q) a w := by
 intro c
 induction c with
 | skip => intro p Q a w h hp; exact wp_skip ⟨.normal, p, rfl, by simpa only [awp] using h, hp⟩
 | exit id => intro p Q a w h hp; exact wp_exit ⟨.exit id, p, rfl, by simpa only [awp] using h, hp⟩
 | ret => intro p Q a w h hp; exact wp_ret ⟨.ret, p, rfl, by simpa only [awp] using h, hp⟩
 | region id ops draw =>
  intro p Q a w h hp
  cases draw with
  | false =>
   simp only [awp] at h
   cases hr : runOps F.cfg ops ops.toList p.st with
   | none => rw [hr] at h; exact h.elim
   | some s =>
    rw [hr] at h
    exact region_sim hC hN hmix hr (by simp) hp.1 fun a' w' hg => ⟨.normal, _, rfl, h, PRel.fin hp.2 hg fun k b hb => (hk k b hb).2⟩
  | true =>
   simp only [awp] at h
   cases hr : runBoth F.cfg ops ops.toList p.st with
   | none => rw [hr] at h; exact h.elim
   | some x =>
    obtain ⟨s, fps⟩ := x
    rw [hr] at h
    obtain ⟨h1, h2⟩ := h
    obtain ⟨e1, e2⟩ := runBoth_spec F.cfg ops _ _ _ _ hr
    simp only [drawOk, Bool.and_eq_true] at h1
    refine region_sim hC hN hmix e1 (fun _ => ⟨?_, h1.1⟩) hp.1 fun a' w' hg => ⟨.normal, _, rfl, h2, PRel.fin hp.2 hg fun k b hb => (hk k b hb).2⟩
    unfold orderOk
    rw [e2]
    exact h1.2
 | seq x y ihx ihy =>
  intro p Q a w h hp
  simp only [awp] at h
  refine wp_seq (wp_mono (ihx p _ a w h hp) ?_)
  rintro e a' w' ⟨ex, p', rfl, hq, hp'⟩
  cases ex with
  | normal => exact ihy p' Q a' w' hq hp'
  | exit i => exact ⟨_, p', rfl, hq, hp'⟩
  | ret => exact ⟨_, p', rfl, hq, hp'⟩
 | cond c x y ihx ihy =>
  intro p Q a w h hp
  simp only [awp] at h
  have hc : ∀ b, condVal c p = some b → a.eval c = .bool b := by
   intro b hb
   unfold condVal at hb
   split at hb
   ·rename_i t
    split at hb
    ·rename_i b' hl
     cases hb
     obtain ⟨β, ω, Z, hr⟩ := hp.1
     have := hr.tmps t
     simp only [PS.st, hl, Option.getD_some] at this
     have h2 := this.2
     simp only [CRel, DRel] at h2
     exact h2
    ·cases hb
   ·cases hb; rfl
   ·cases hb
  cases hv : condVal c p with
  | none => rw [hv] at h; exact h.elim
  | some b =>
   rw [hv] at h
   exact wp_cond_split (hc b hv) (fun hb => ihx p Q a w (h.1 hb) hp) (fun hb => ihy p Q a w (h.2 hb) hp)
 | block id b ih =>
  intro p Q a w h hp
  simp only [awp] at h
  refine wp_block (wp_mono (ih p _ a w h hp) ?_)
  rintro e a' w' ⟨ex, p', rfl, hq, hp'⟩
  cases ex with
  | normal => exact ⟨.normal, p', rfl, hq, hp'⟩
  | exit i =>
   simp only [exOf, Exit.inBlock]
   simp only at hq
   by_cases hi : i = id
   ·rw [if_pos hi] at hq ⊢; exact ⟨.normal, p', rfl, hq, hp'⟩
   ·rw [if_neg hi] at hq ⊢; exact ⟨.exit i, p', rfl, hq, hp'⟩
  | ret => exact ⟨.ret, p', rfl, hq, hp'⟩
 | loop b ih =>
  intro p Q a w h hp
  obtain ⟨live, bl, I, μ, hb, h0, hstep⟩ : ∃ (live : List Nat) (bl : List Key) (I : PS → Prop) (μ : PS → Nat), keepsIn F.bkeys bl = true ∧ I (forget live bl p) ∧ ∀ q, I q → awp F b q fun e q' => match e with
   | .normal => I (forget live bl q') ∧ μ (forget live bl q') < μ q
   | e => Q e q' := h
  intro fb k cs
  have key : ∀ n q a w, μ q = n → I q → PRel K q a w →
    ∃ e a' w', Post K Q e a' w' ∧ Arrives K.P (lone (fb.at a (.code b :: .inLoop b :: k)) cs w) fb k cs e a' w' := by
   intro n
   induction n using Nat.strongRecOn with
   | _ n ihn =>
    intro q a w hn hI hq
    obtain ⟨e, a₁, w₁, ⟨ex, p', rfl, hQ, hp'⟩, harr⟩ := ih q _ a w (hstep q hI) hq fb (.inLoop b :: k) cs
    cases ex with
    | normal =>
     obtain ⟨hI₁, hlt⟩ := hQ
     obtain ⟨e₂, a₂, w₂, hq₂, harr₂⟩ := ihn _ (hn ▸ hlt) _ a₁ w₁ rfl hI₁ (hp'.forget hk hb)
     exact ⟨e₂, a₂, w₂, hq₂, .of_steps (Steps.trans harr (.one step_inLoop)) harr₂⟩
    | exit id => exact ⟨_, a₁, w₁, ⟨_, p', rfl, hQ, hp'⟩, .pass (x := .inLoop b) rfl (fun _ _ => .inl (by simp [exOf])) harr⟩
    | ret => exact ⟨_, a₁, w₁, ⟨_, p', rfl, hQ, hp'⟩, .pass (x := .inLoop b) rfl (fun _ _ => .inl (by simp [exOf])) harr⟩
  obtain ⟨e, a', w', hq, harr⟩ := key _ _ a w rfl h0 (hp.forget hk hb)
  exact ⟨e, a', w', hq, .of_steps (.one step_loop) harr⟩
 | scope b ih =>
  intro p Q a w h hp
  simp only [awp] at h
  refine wp_scope_straight (wp_mono (ih p Q a w h hp) ?_)
  rintro e a' w' ⟨ex, p', rfl, hq, hp'⟩
  cases ex <;> exact ⟨_, p', rfl, hq, hp'⟩
 | _ => intro p Q a w h hp; simp only [awp] at h
end
end Go.Vs
/- A function: what its code gives is what its contract says. -/
namespace Go.Vs
noncomputable section

/-! ## What is handed back -/
def readR (cfg : Cfg) : ResultVar → Prog SV
  | .tmp t => ev (.tmp t)
  | .cell a t => match cfg.ti t with
    | some i => do loadP i (← ev1 (.tmp a))
    | none => .fail
def readRs (cfg : Cfg) : List ResultVar → Prog (List SV)
  | [] => .ret []
  | r :: rs => do let v ← readR cfg r; let vs ← readRs cfg rs; .ret (v :: vs)

def argC : C → Prog C
  | .bor (.arg i) j hv cv e k xs => do let x ← toD (.bor (.arg i) j hv cv e k xs); .ret (.d x)
  | c => .ret c
def argCs : List C → Prog (List C)
  | [] => .ret []
  | c :: cs => do let c' ← argC c; let r ← argCs cs; .ret (c' :: r)
def argSV : SV → Prog SV
  | .one c => do .ret (.one (← argC c))
  | .agg cs => do .ret (.agg (← argCs cs))
  | _ => .fail
def argSVs : List SV → Prog (List SV)
  | [] => .ret []
  | v :: vs => do let v' ← argSV v; let r ← argSVs vs; .ret (v' :: r)

def easy : C → Bool
  | .d _ | .own _ _ | .ptr _ _ | .dead => true
  | _ => false
def settle (k : Key) : Prog Unit :=
  .get (.box k) fun x => match x.v with
    | .agg cs => if cs.all easy = true then .ret () else do
      let cs' ← argCs cs
      putR (.box k) { hv := x.hv + 1, cv := x.cv, v := .agg cs' }
    | _ => .fail
def settles : List Key → Prog Unit
  | [] => .ret ()
  | k :: ks => do settle k; settles ks

def outV : List SV → SV
  | [v] => v
  | vs => .tup (vs.map fun v => match v with | .one c => (false, [c]) | .agg cs => (true, cs) | _ => (false, []))
def combV : List Value → Value
  | [u] => u
  | us => .tuple us.toArray
def outTake (d : Bool) : Res → Bool
  | .tmp _ => !d
  | .box (.inb _) => false
  | .box _ => !d
  | .arg _ => false

def outC (ks : List Key) : C → Prog C
  | .d x => .ret (.d x)
  | .own e xs => .ret (.own e xs)
  | .ptr k off => do need (k ∈ ks); .ret (.ptr (.inb (idx k ks)) off)
  | .clo f caps => do need (caps = []); .ret (.clo f [])
  | _ => .fail
def outCs (ks : List Key) : List C → Prog (List C)
  | [] => .ret []
  | c :: cs => do let c' ← outC ks c; let r ← outCs ks cs; .ret (c' :: r)
def outTup (ks : List Key) : List (Bool × List C) → Prog (List (Bool × List C))
  | [] => .ret []
  | (b, cs) :: vs => do let cs' ← outCs ks cs; let r ← outTup ks vs; .ret ((b, cs') :: r)
def outSV (ks : List Key) : SV → Prog SV
  | .one c => do .ret (.one (← outC ks c))
  | .agg cs => do .ret (.agg (← outCs ks cs))
  | .tup vs => do .ret (.tup (← outTup ks vs))
  | .undef => .fail

def inbs (n : Nat) : List Key := (List.range n).map .inb
def outKeys (nb : Nat) (cs : List C) : List Key := inbs nb ++ (dedup (keysOf cs)).filter fun k => !k.isIn
def exitP (cfg : Cfg) (res : List ResultVar) (nb : Nat) : Prog (SV × List (List C)) := do
  let vs ← readRs cfg res
  let ks := outKeys nb (vs.flatMap SV.cells)
  settles ks
  let vs1 ← argSVs vs
  let v2 ← stashSV (.tmp 0) (outTake cfg.outd) (outV vs1)
  let bs ← getBoxes ks ks
  let v3 ← outSV ks v2
  .ret (v3, bs)

/-! ## How a function begins -/
def startSV (i : Nat) (v : SV) : SV := RV.copy { v } (.arg i)
def startSlots : Nat → List SV → List (Nat × SV)
  | _, [] => []
  | i, v :: vs => (i, startSV i v) :: startSlots (i + 1) vs
def startBoxes : Nat → List (List C) → List (Key × List C)
  | _, [] => []
  | i, b :: bs => (.inb i, b) :: startBoxes (i + 1) bs
def startPS (args : List SV) (boxes : List (List C)) : PS := { slots := startSlots 0 args, boxes := startBoxes 0 boxes, args }

/-- at the end: what is handed back is what the contract says -/
def Ends (cfg : Cfg) (res : List ResultVar) (args : List SV) (nb : Nat) (r : CallRes) (e : Ex) (p : PS) : Prop :=
  (e = .normal ∨ e = .ret) ∧ match (exitP cfg res nb).exec p.st with
    | some ((v, bs), s) => v = r.v ∧ bs = r.boxes ∧ ∀ i, i < args.length → (s (.arg i)).v = (frzArgs r.frz args).getD i .undef
    | none => False

section
variable {K : Ctx} {β : Key → Option Nat} {ω : Nat → Option Holder} {Z : Nat → Prop} {s : St} {a : Act} {w : World} {cfg : Cfg}

/-! ### results are read -/
def slotVal (a : Act) : ResultVar → Sem Value
  | .tmp t => pure (a.tmps.getD t undef)
  | .cell b t => do loadVar t (← asAddr (a.tmps.getD b undef))

theorem readR_spec (hT : Tabs K.P cfg) (h : Rel K β ω Z s a w) {r : ResultVar} {v : SV} {s' : St} (he : (readR cfg r).exec s = some (v, s')) :
    s' = s ∧ ∃ u, (slotVal a r).run K.P w = .ok u w ∧ SVRel (CRel K β Z s a w) u v ∧ (∀ c ∈ v.cells, NoOwn c) := by
  cases r with
  | tmp t =>
    simp only [readR] at he
    obtain ⟨hs, h1, h2, h3⟩ := ev_spec h he
    exact ⟨hs, _, rfl, h1, h2⟩
  | cell b t =>
    simp only [readR] at he
    split at he
    · rename_i i hi
      obtain ⟨c, s1, h1, he2⟩ := exec_bind' he
      obtain ⟨hs1, ho, hc, hno⟩ := ev1_spec h h1
      subst hs1
      obtain ⟨hs2, x, g1, g2, g3⟩ := load_spec h (hT.T t i hi) hc he2
      refine ⟨hs2, x, ?_, g2, g3⟩
      have hp : ∃ ad, a.tmps.getD b undef = .pointer (some ad) := by
        have hc' : CRel K β Z s1 a w c (a.tmps.getD b undef) := hc
        unfold loadP at he2
        split at he2
        · obtain ⟨b', _, g⟩ := hc'; exact ⟨_, g⟩
        · obtain ⟨b', o', g, _⟩ := hc'; exact ⟨_, g⟩
        · obtain ⟨b', o', g, _⟩ := hc'; exact ⟨_, g⟩
        · simp [Prog.exec] at he2
      obtain ⟨ad, had⟩ := hp
      have g1' : (Instr.loadAt t (a.tmps.getD b undef)).run K.P w = .ok x w := g1
      simp only [slotVal]
      rw [had] at g1' ⊢
      simpa [Instr.loadAt, Instr.sureAddr, asAddr] using g1'
    · simp [Prog.exec] at he

theorem run_listMapM {α : Type} {P : Program} {w : World} (f : α → Sem Value) : ∀ (l : List α) (us : List Value), All2 (fun x u => (f x).run P w = .ok u w) l us → (l.mapM f).run P w = .ok us w
  | [], [], _ => rfl
  | x :: l, u :: us, h => by
    have h1 := h.1
    have h2 := run_listMapM f l us h.2
    simp [List.mapM_cons, h1, h2]

theorem readRs_spec (hT : Tabs K.P cfg) (h : Rel K β ω Z s a w) : ∀ (rs : List ResultVar) (vs : List SV) (s' : St), (readRs cfg rs).exec s = some (vs, s') →
    s' = s ∧ ∃ us, All2 (fun r u => (slotVal a r).run K.P w = .ok u w) rs us ∧ All2 (fun u v => SVRel (CRel K β Z s a w) u v ∧ (∀ c ∈ v.cells, NoOwn c)) us vs := by
  intro rs
  induction rs with
  | nil =>
    intro vs s' he
    obtain ⟨rfl, rfl⟩ := exec_ret he
    exact ⟨rfl, [], trivial, trivial⟩
  | cons r rs ih =>
    intro vs s' he
    simp only [readRs] at he
    obtain ⟨v1, s1, h1, he1⟩ := exec_bind' he
    obtain ⟨vs1, s2, h2, he2⟩ := exec_bind' he1
    obtain ⟨rfl, rfl⟩ := exec_ret he2
    obtain ⟨rfl, u, g1, g2⟩ := readR_spec hT h h1
    obtain ⟨rfl, us, g3, g4⟩ := ih _ _ h2
    exact ⟨rfl, u :: us, ⟨g1, g3⟩, ⟨g2, g4⟩⟩

theorem results_run {fn : Func} {us : List Value} (h : All2 (fun r u => (slotVal a r).run K.P w = .ok u w) fn.results.toList us) : (results fn a.tmps).run K.P w = .ok (combV us) w := by
  have h1 := run_listMapM (P := K.P) (w := w) (slotVal a) _ us h
  have h2 : results fn a.tmps = (do let vs ← fn.results.mapM (slotVal a); pure (if h : vs.size = 1 then vs[0] else .tuple vs)) := by
    unfold results
    congr 1
  rw [h2, Array.mapM_eq_mapM_toList]
  simp only [map_eq_pure_bind, bind_assoc, pure_bind]
  have : ∀ (v : Value), combV us = v → (List.mapM (slotVal a) fn.results.toList >>= fun a => (pure (if h : a.toArray.size = 1 then a.toArray[0] else Value.tuple a.toArray) : Sem Value)).run K.P w = .ok v w := by
    intro v hv
    simp only [Sem.run_bind, h1]
    simp
    subst hv
    match us with
    | [] => rfl
    | [u] => rfl
    | u :: u' :: us => simp [combV]
  exact this _ rfl


/-! ### what is borrowed of an argument becomes data -/
def CB (K : Ctx) (β : Key → Option Nat) (Z : Nat → Prop) (s : St) (a : Act) (w : World) (u : Value) (c : C) : Prop :=
  CRel K β Z s a w c u ∧ ∀ (e : Nat) (xs : List (List D)) (b : Nat), c = .own e xs → blkOf u = some b → b < w.heap.size
theorem CB.lift {ω' : Nat → Option Holder} {Z' : Nat → Prop} {s' : St} (hr : Rel K β ω Z s a w) (k : Calm K β a ω Z s w ω' Z' s' w) {u : Value} {c : C} (h : CB K β Z s a w u c) : CB K β Z' s' a w u c :=
  ⟨k.crel hr.zin h.2 h.1, h.2⟩

theorem freezeAt_arg {i j : Nat} {x : RV} {y : Unit} {s s' : St} (he : (freezeAt (.arg i) j x).exec s = some (y, s')) : ∀ k, s' (.box k) = s (.box k) := by
  intro k
  unfold freezeAt at he
  split at he
  · simp only [putR, Prog.exec, Option.some.injEq, Prod.mk.injEq] at he
    obtain ⟨_, rfl⟩ := he
    simp [St.set]
  · obtain ⟨_, rfl⟩ := exec_ret he; rfl
  · simp [Prog.exec] at he

theorem argC_spec (h : Rel K β ω Z s a w) {c c' : C} {u : Value} {s' : St} (hcu : CB K β Z s a w u c) (he : (argC c).exec s = some (c', s')) :
    (∃ ω' Z', Rel K β ω' Z' s' a w ∧ Calm K β a ω Z s w ω' Z' s' w ∧ CB K β Z' s' a w u c') ∧ (∀ (e : Nat) (xs : List (List D)), c' = C.own e xs → c = C.own e xs) ∧ (∀ k, s' (.box k) = s (.box k)) := by
  unfold argC at he
  split at he
  · rename_i i j hv cv e k xs
    obtain ⟨x, s1, h1, he2⟩ := exec_bind' he
    obtain ⟨rfl, rfl⟩ := exec_ret he2
    obtain ⟨ω', Z', r1, k1, d1⟩ := toD_spec h hcu.1 h1
    refine ⟨⟨ω', Z', r1, k1, d1, by simp⟩, by simp, ?_⟩
    simp only [toD, Prog.exec] at h1
    obtain ⟨_, s2, g1, h1⟩ := exec_bind' h1
    obtain ⟨_, rfl⟩ := exec_need g1
    obtain ⟨_, s3, g2, h1⟩ := exec_bind' h1
    obtain ⟨_, rfl⟩ := exec_ret h1
    exact freezeAt_arg g2
  · obtain ⟨rfl, rfl⟩ := exec_ret he
    exact ⟨⟨ω, Z, h, Calm.refl, hcu⟩, fun _ _ h => h, fun _ => rfl⟩

theorem argCs_spec : ∀ (cs : List C) (us : List Value) (ω : Nat → Option Holder) (Z : Nat → Prop) (s s' : St) (cs' : List C), Rel K β ω Z s a w → All2 (CB K β Z s a w) us cs → (argCs cs).exec s = some (cs', s') →
    (∃ ω' Z', Rel K β ω' Z' s' a w ∧ Calm K β a ω Z s w ω' Z' s' w ∧ All2 (CB K β Z' s' a w) us cs') ∧ (∀ (j e : Nat) (xs : List (List D)), cs'[j]? = some (C.own e xs) → cs[j]? = some (C.own e xs)) ∧ (∀ k, s' (.box k) = s (.box k)) := by
  intro cs
  induction cs with
  | nil =>
    intro us ω Z s s' cs' h hall he
    obtain ⟨rfl, rfl⟩ := exec_ret he
    exact ⟨⟨ω, Z, h, Calm.refl, hall⟩, fun _ _ _ h => h, fun _ => rfl⟩
  | cons c cs ih =>
    intro us ω Z s s' cs' h hall he
    cases us with
    | nil => exact hall.elim
    | cons u us =>
      simp only [argCs] at he
      obtain ⟨c1, s1, h1, he1⟩ := exec_bind' he
      obtain ⟨cs1, s2, h2, he2⟩ := exec_bind' he1
      obtain ⟨rfl, rfl⟩ := exec_ret he2
      obtain ⟨⟨ω1, Z1, r1, k1, p1⟩, q1, b1⟩ := argC_spec h hall.1 h1
      obtain ⟨⟨ω2, Z2, r2, k2, p2⟩, q2, b2⟩ := ih us ω1 Z1 s1 _ cs1 r1 (All2.mono (fun _ _ hh => hh.lift h k1) hall.2) h2
      refine ⟨⟨ω2, Z2, r2, k1.trans k2, p1.lift r1 k2, p2⟩, ?_, fun k => (b2 k).trans (b1 k)⟩
      intro j e xs hj
      cases j with
      | zero => simp only [List.getElem?_cons_zero, Option.some.injEq] at hj ⊢; exact q1 e xs hj
      | succ j => simp only [List.getElem?_cons_succ] at hj ⊢; exact q2 j e xs hj

def VR (K : Ctx) (β : Key → Option Nat) (Z : Nat → Prop) (s : St) (a : Act) (w : World) (u : Value) (v : SV) : Prop := SVRel (CRel K β Z s a w) u v ∧ (∀ c ∈ v.cells, NoOwn c)
theorem VR.lift {ω' : Nat → Option Holder} {Z' : Nat → Prop} {s' : St} {w' : World} (hr : Rel K β ω Z s a w) (k : Calm K β a ω Z s w ω' Z' s' w') {u : Value} {v : SV} (h : VR K β Z s a w u v) : VR K β Z' s' a w' u v :=
  ⟨SVRel.mono (fun c _ hc hcu => k.crel hr.zin (fun e xs _ hx _ => absurd hx (h.2 c hc e xs)) hcu) h.1, h.2⟩
def okOut : SV → Prop
  | .one _ | .agg _ => True
  | _ => False

theorem argSV_spec (h : Rel K β ω Z s a w) {v v' : SV} {u : Value} {s' : St} (hv : VR K β Z s a w u v) (he : (argSV v).exec s = some (v', s')) :
    ∃ ω' Z', Rel K β ω' Z' s' a w ∧ Calm K β a ω Z s w ω' Z' s' w ∧ VR K β Z' s' a w u v' ∧ okOut v' := by
  cases v with
  | one c =>
    simp only [argSV] at he
    obtain ⟨c1, s1, h1, he2⟩ := exec_bind' he
    obtain ⟨rfl, rfl⟩ := exec_ret he2
    have hno := hv.2 c (by simp [SV.cells])
    obtain ⟨⟨ω1, Z1, r1, k1, p1⟩, q1, _⟩ := argC_spec h ⟨hv.1.2, fun e xs _ hx _ => absurd hx (hno e xs)⟩ h1
    exact ⟨ω1, Z1, r1, k1, ⟨⟨hv.1.1, p1.1⟩, by intro x hx; simp only [SV.cells, List.mem_singleton] at hx; subst hx; exact fun e xs hx => hno e xs (q1 e xs hx)⟩, trivial⟩
  | agg cs =>
    simp only [argSV] at he
    obtain ⟨c1, s1, h1, he2⟩ := exec_bind' he
    obtain ⟨rfl, rfl⟩ := exec_ret he2
    obtain ⟨ws, hu, hall⟩ := hv.1
    obtain ⟨⟨ω1, Z1, r1, k1, p1⟩, q1, _⟩ := argCs_spec cs ws.toList ω Z s _ _ h (hall.mono_mem fun u c hc hr => ⟨hr, fun e xs _ hx _ => absurd hx (hv.2 c hc e xs)⟩) h1
    refine ⟨ω1, Z1, r1, k1, ⟨⟨ws, hu, All2.mono (fun _ _ hh => hh.1) p1⟩, ?_⟩, trivial⟩
    intro c hc e xs hx
    obtain ⟨j, hj⟩ := List.getElem?_of_mem hc
    subst hx
    exact hv.2 _ (List.mem_of_getElem? (q1 j e xs hj)) e xs rfl
  | tup x => simp [argSV, Prog.exec] at he
  | undef => simp [argSV, Prog.exec] at he

theorem argSVs_spec : ∀ (vs : List SV) (us : List Value) (ω : Nat → Option Holder) (Z : Nat → Prop) (s s' : St) (vs' : List SV), Rel K β ω Z s a w → All2 (VR K β Z s a w) us vs → (argSVs vs).exec s = some (vs', s') →
    ∃ ω' Z', Rel K β ω' Z' s' a w ∧ Calm K β a ω Z s w ω' Z' s' w ∧ All2 (fun u v => VR K β Z' s' a w u v ∧ okOut v) us vs' := by
  intro vs
  induction vs with
  | nil =>
    intro us ω Z s s' vs' h hall he
    obtain ⟨rfl, rfl⟩ := exec_ret he
    cases us with
    | nil => exact ⟨ω, Z, h, Calm.refl, trivial⟩
    | cons u us => exact hall.elim
  | cons v vs ih =>
    intro us ω Z s s' vs' h hall he
    cases us with
    | nil => exact hall.elim
    | cons u us =>
      simp only [argSVs] at he
      obtain ⟨v1, s1, h1, he1⟩ := exec_bind' he
      obtain ⟨vs1, s2, h2, he2⟩ := exec_bind' he1
      obtain ⟨rfl, rfl⟩ := exec_ret he2
      obtain ⟨ω1, Z1, r1, k1, p1, o1⟩ := argSV_spec h hall.1 h1
      obtain ⟨ω2, Z2, r2, k2, p2⟩ := ih us ω1 Z1 s1 _ vs1 r1 (All2.mono (fun _ _ hr => VR.lift h k1 hr) hall.2) h2
      exact ⟨ω2, Z2, r2, k1.trans k2, ⟨VR.lift r1 k2 p1, o1⟩, p2⟩

theorem outV_rel {us : List Value} {vs : List SV} (h : All2 (fun u v => VR K β Z s a w u v ∧ okOut v) us vs) : VR K β Z s a w (combV us) (outV vs) := by
  have gen : ∀ {us : List Value} {vs : List SV}, All2 (fun u v => VR K β Z s a w u v ∧ okOut v) us vs →
      All2 (TRel (CRel K β Z s a w)) us (vs.map fun v => match v with | .one c => (false, [c]) | .agg cs => (true, cs) | _ => (false, [])) ∧
      ∀ c ∈ (vs.map fun v => match v with | .one c => (false, [c]) | .agg cs => (true, cs) | _ => (false, ([] : List C))).flatMap (·.2), NoOwn c := by
    intro us vs
    induction vs generalizing us with
    | nil => intro h; cases us with | nil => exact ⟨trivial, by simp⟩ | cons => exact h.elim
    | cons v vs ih =>
      intro h
      cases us with
      | nil => exact h.elim
      | cons u us =>
        obtain ⟨⟨⟨h1, h2⟩, h3⟩, h4⟩ := h
        obtain ⟨g1, g2⟩ := ih h4
        cases v with
        | one c =>
          refine ⟨⟨?_, g1⟩, ?_⟩
          · simp only [TRel, Bool.false_eq_true, if_false]; exact ⟨c, rfl, h1.1, h1.2⟩
          · intro x hx
            simp only [List.map_cons, List.flatMap_cons, List.mem_append] at hx
            rcases hx with hx | hx
            · exact h2 x (by simpa [SV.cells] using hx)
            · exact g2 x hx
        | agg cs =>
          refine ⟨⟨?_, g1⟩, ?_⟩
          · simp only [TRel, if_true]; exact h1
          · intro x hx
            simp only [List.map_cons, List.flatMap_cons, List.mem_append] at hx
            rcases hx with hx | hx
            · exact h2 x (by simpa [SV.cells] using hx)
            · exact g2 x hx
        | tup x => exact h3.elim
        | undef => exact h3.elim
  match us, vs, h with
  | [u], [v], h => exact h.1.1
  | [], [], h => exact ⟨⟨#[], rfl, trivial⟩, by simp [outV, SV.cells]⟩
  | u :: u' :: us, v :: v' :: vs, h =>
    obtain ⟨g1, g2⟩ := gen h
    exact ⟨⟨_, rfl, by simpa [combV] using g1⟩, g2⟩
  | [u], [], h => exact h.elim
  | [], [v], h => exact h.elim
  | [u], v :: v' :: vs, h => exact h.2.elim
  | u :: u' :: us, [v], h => exact h.2.elim
  | u :: u' :: us, [], h => exact h.elim
  | [], v :: v' :: vs, h => exact h.elim

/-! ### boxes are settled -/
theorem settle_spec (h : Rel K β ω Z s a w) {k : Key} {y : Unit} {s' : St} (he : (settle k).exec s = some (y, s')) {us : List Value} {vs : List SV} (hv : All2 (VR K β Z s a w) us vs) :
    ∃ ω' Z', Rel K β ω' Z' s' a w ∧ All2 (VR K β Z' s' a w) us vs := by
  unfold settle at he
  simp only [Prog.exec] at he
  split at he
  · rename_i cs hcs
    split at he
    · obtain ⟨_, rfl⟩ := exec_ret he; exact ⟨ω, Z, h, hv⟩
    · obtain ⟨cs', s1, h1, he⟩ := exec_bind' he
      simp only [putR, Prog.exec, Option.some.injEq, Prod.mk.injEq] at he
      obtain ⟨_, rfl⟩ := he
      obtain ⟨b, ws, el, lo, hi, g1, g2, g3, g4, g5⟩ := BoxRel.cell h hcs
      have hall : All2 (CB K β Z s a w) ws.toList cs := All2.of_get g5.length fun j u c hu hc => by
        obtain ⟨u', q1, q2⟩ := g5.get hc
        rw [hu] at q1; cases q1
        refine ⟨q2, fun e xs b1 e1 e2 => ?_⟩
        subst e1
        have := (h.own (.box k) j e xs u b1 rfl (by rw [hcs]; exact hc) (by rw [hdr_box g1 g3]; exact hu) e2).1
        exact (h.ωok _ _ this).2.1
      obtain ⟨⟨ω1, Z1, r1, k1, p1⟩, q1, b1⟩ := argCs_spec cs ws.toList ω Z s s1 cs' h hall h1
      obtain ⟨b2, ws2, el2, lo2, hi2, f1, f2, f3, f4, f5⟩ := BoxRel.cell r1 (by rw [b1]; exact hcs)
      rw [g1] at f1; cases f1
      rw [g3] at f3; cases f3
      obtain ⟨t1, t2⟩ := r1.setBox (k := k) (b := b) (w' := w) (cs := cs') f2 (.inr g1) rfl rfl rfl rfl (fun _ _ => rfl) g3 g4 (All2.mono (fun _ _ hh => hh.1) p1) (fun j e xs u1 b2 hc hu hb2 =>
        r1.own (.box k) j e xs u1 b2 rfl (by rw [b1, hcs]; exact q1 j e xs hc) (by rw [hdr_box g1 g3]; exact hu) hb2)
      have hβ : (fun k' => if k' = k then some b else β k') = β := by
        funext k'
        by_cases e : k' = k
        · subst e; simp [g1]
        · simp [e]
      rw [hβ, b1] at t1 t2
      refine ⟨ω1, Z1, t1, All2.mono (fun u v hh => ?_) hv⟩
      have hh' := hh.lift h k1
      exact ⟨SVRel.mono (fun c u hc hr => t2 c u (fun e xs _ hx _ => absurd hx (hh.2 c hc e xs)) hr) hh'.1, hh'.2⟩
  · simp [Prog.exec] at he

theorem settles_spec : ∀ (ks : List Key) (ω : Nat → Option Holder) (Z : Nat → Prop) (s s' : St) (y : Unit), Rel K β ω Z s a w → (settles ks).exec s = some (y, s') → ∀ {us : List Value} {vs : List SV}, All2 (VR K β Z s a w) us vs →
    ∃ ω' Z', Rel K β ω' Z' s' a w ∧ All2 (VR K β Z' s' a w) us vs
  | [], ω, Z, s, s', y, h, he, us, vs, hv => by obtain ⟨_, rfl⟩ := exec_ret he; exact ⟨ω, Z, h, hv⟩
  | k :: ks, ω, Z, s, s', y, h, he, us, vs, hv => by
    simp only [settles] at he
    obtain ⟨_, s1, h1, he⟩ := exec_bind' he
    obtain ⟨ω1, Z1, r1, v1⟩ := settle_spec h h1 hv
    exact settles_spec ks ω1 Z1 s1 s' _ r1 he v1


/-! ### the value goes out -/
def OC (ks : List Key) (c c' : C) : Prop :=
  (∀ (K K' : Ctx) (β : Key → Option Nat) (Z : Nat → Prop) (s s' : St) (a a' : Act) (w : World) (u : Value), CRel K β Z s a w c u → CRel K' (idxβ ks β) Z s' a' w c' u) ∧ (∀ (e : Nat) (xs : List (List D)), c' = C.own e xs → c = C.own e xs)
theorem outC_spec {ks : List Key} {c c' : C} {s' : St} (he : (outC ks c).exec s = some (c', s')) : s' = s ∧ OC ks c c' := by
  unfold outC at he
  split at he
  · obtain ⟨rfl, rfl⟩ := exec_ret he; exact ⟨rfl, fun _ _ _ _ _ _ _ _ _ _ h => h, fun _ _ h => h⟩
  · obtain ⟨rfl, rfl⟩ := exec_ret he; exact ⟨rfl, fun _ _ _ _ _ _ _ _ _ _ h => h, fun _ _ h => h⟩
  · obtain ⟨_, s1, h1, he2⟩ := exec_bind' he
    obtain ⟨hk, rfl⟩ := exec_need h1
    obtain ⟨rfl, rfl⟩ := exec_ret he2
    exact ⟨rfl, fun _ _ β _ _ _ _ _ _ _ ⟨b, g1, g2⟩ => ⟨b, by rw [idxβ_of hk]; exact g1, g2⟩, by simp⟩
  · obtain ⟨_, s1, h1, he2⟩ := exec_bind' he
    obtain ⟨hk, rfl⟩ := exec_need h1
    obtain ⟨rfl, rfl⟩ := exec_ret he2
    refine ⟨rfl, fun _ _ β _ _ _ _ _ _ _ ⟨vs, g1, g2⟩ => ⟨vs, g1, ?_⟩, by simp⟩
    subst hk
    cases hvs : vs.toList with
    | nil => trivial
    | cons x xs => rw [hvs] at g2; exact g2.elim
  · simp [Prog.exec] at he
theorem outCs_spec {ks : List Key} : ∀ {cs cs' : List C} {s s' : St}, (outCs ks cs).exec s = some (cs', s') → s' = s ∧ All2 (OC ks) cs cs'
  | [], _, _, _, he => by obtain ⟨rfl, rfl⟩ := exec_ret he; exact ⟨rfl, trivial⟩
  | c :: cs, cs', s, s', he => by
    simp only [outCs] at he
    obtain ⟨c1, s1, h1, he⟩ := exec_bind' he
    obtain ⟨cs1, s2, h2, he⟩ := exec_bind' he
    obtain ⟨rfl, rfl⟩ := exec_ret he
    obtain ⟨rfl, g1⟩ := outC_spec h1
    obtain ⟨rfl, g2⟩ := outCs_spec h2
    exact ⟨rfl, g1, g2⟩
theorem outTup_spec {ks : List Key} : ∀ {vs vs' : List (Bool × List C)} {s s' : St}, (outTup ks vs).exec s = some (vs', s') → s' = s ∧ All2 (fun x y => x.1 = y.1 ∧ All2 (OC ks) x.2 y.2) vs vs'
  | [], _, _, _, he => by obtain ⟨rfl, rfl⟩ := exec_ret he; exact ⟨rfl, trivial⟩
  | (b, cs) :: vs, vs', s, s', he => by
    simp only [outTup] at he
    obtain ⟨c1, s1, h1, he⟩ := exec_bind' he
    obtain ⟨cs1, s2, h2, he⟩ := exec_bind' he
    obtain ⟨rfl, rfl⟩ := exec_ret he
    obtain ⟨rfl, g1⟩ := outCs_spec h1
    obtain ⟨rfl, g2⟩ := outTup_spec h2
    exact ⟨rfl, ⟨rfl, g1⟩, g2⟩
theorem All2.comp {α β γ : Type} {R : α → β → Prop} {S : β → γ → Prop} {T : α → γ → Prop} (hT : ∀ a b c, R a b → S b c → T a c) : ∀ {as : List α} {bs : List β} {cs : List γ}, All2 R as bs → All2 S bs cs → All2 T as cs
  | [], [], [], _, _ => trivial
  | _ :: _, _ :: _, _ :: _, h, k => ⟨hT _ _ _ h.1 k.1, All2.comp hT h.2 k.2⟩
theorem tup_cells {R : C → C → Prop} : ∀ {xs ys : List (Bool × List C)}, All2 (fun x y => x.1 = y.1 ∧ All2 R x.2 y.2) xs ys → All2 R (xs.flatMap (·.2)) (ys.flatMap (·.2))
  | [], [], _ => trivial
  | _ :: _, _ :: _, h => by
    simp only [List.flatMap_cons]
    exact All2.append h.1.2 (tup_cells h.2)
theorem outSV_spec {ks : List Key} {v v' : SV} {s s' : St} (he : (outSV ks v).exec s = some (v', s')) :
    s' = s ∧ All2 (OC ks) v.cells v'.cells ∧ ∀ (R R' : C → Value → Prop), (∀ c c' u, OC ks c c' → R c u → R' c' u) → ∀ u, SVRel R u v → SVRel R' u v' := by
  cases v with
  | one c =>
    simp only [outSV] at he
    obtain ⟨c1, s1, h1, he⟩ := exec_bind' he
    obtain ⟨rfl, rfl⟩ := exec_ret he
    obtain ⟨rfl, g⟩ := outC_spec h1
    exact ⟨rfl, ⟨g, trivial⟩, fun R R' hR u hu => ⟨hu.1, hR _ _ _ g hu.2⟩⟩
  | agg cs =>
    simp only [outSV] at he
    obtain ⟨c1, s1, h1, he⟩ := exec_bind' he
    obtain ⟨rfl, rfl⟩ := exec_ret he
    obtain ⟨rfl, g⟩ := outCs_spec h1
    exact ⟨rfl, g, fun R R' hR u ⟨ws, g1, g2⟩ => ⟨ws, g1, All2.comp (T := fun u c => R' c u) (fun u b c h k => hR b c u k h) g2 g⟩⟩
  | tup vs =>
    simp only [outSV] at he
    obtain ⟨c1, s1, h1, he⟩ := exec_bind' he
    obtain ⟨rfl, rfl⟩ := exec_ret he
    obtain ⟨rfl, g⟩ := outTup_spec h1
    refine ⟨rfl, tup_cells g, fun R R' hR u ⟨ws, g1, g2⟩ => ⟨ws, g1, All2.comp (fun a b c h k => ?_) g2 g⟩⟩
    unfold TRel at h ⊢
    obtain ⟨k1, k2⟩ := k
    rw [← k1]
    split
    · rename_i hb
      simp only [hb, if_true] at h
      obtain ⟨us, e1, e2⟩ := h
      exact ⟨us, e1, All2.comp (T := fun u c => R' c u) (fun u b c h k => hR b c u k h) e2 k2⟩
    · rename_i hb
      simp only [hb] at h
      obtain ⟨x, e1, e2, e3⟩ := h
      rw [e1] at k2
      match c.2, k2 with
      | [y], k2 => exact ⟨y, rfl, e2, hR _ _ _ k2.1 e3⟩
  | undef => simp [outSV, Prog.exec] at he

/-! ### the keys that go out -/
theorem inbs_get {n i : Nat} (h : i < n) : (inbs n)[i]? = some (.inb i) := by simp [inbs, h]
theorem inbs_nodup (n : Nat) : (inbs n).Nodup := by
  unfold inbs
  exact List.Pairwise.map _ (fun a b hab e => hab (by cases e; rfl)) List.nodup_range
theorem outKeys_nodup (nb : Nat) (cs : List C) : (outKeys nb cs).Nodup := by
  unfold outKeys
  refine List.nodup_append.2 ⟨inbs_nodup nb, (dedup_nodup _).filter _, ?_⟩
  rintro a ha b hb rfl
  simp only [inbs, List.mem_map] at ha
  obtain ⟨i, _, rfl⟩ := ha
  simp [Key.isIn] at hb
theorem outKeys_get {nb i : Nat} (h : i < nb) (cs : List C) : (outKeys nb cs)[i]? = some (.inb i) := by
  unfold outKeys
  rw [List.getElem?_append_left (by simp [inbs, h]), inbs_get h]

theorem frz1_cells (v : SV) (j l : Nat) : (frz1 v j).cells[l]? = v.cells[l]? ∨ ∃ e ys, v.cells[l]? = some (.own e ys) ∧ (frz1 v j).cells[l]? = some (.d (.sl e ys)) := by
  unfold frz1
  split
  · rename_i e ys h
    rw [setCell_cells, List.getElem?_set]
    by_cases hj : j = l
    · subst hj
      have hc : v.cells[j]? = some (.own e ys) := by
        rw [List.getD_eq_getElem?_getD] at h
        cases hx : v.cells[j]? with
        | none => rw [hx] at h; cases h
        | some c => rw [hx] at h; simp only [Option.getD_some] at h; rw [h]
      right
      refine ⟨e, ys, hc, ?_⟩
      rw [if_pos rfl, if_pos (List.getElem?_eq_some_iff.1 hc).1]
    · rw [if_neg hj]; exact .inl rfl
  · exact .inl rfl
theorem frzArgs_cells : ∀ (l : List (Nat × Nat)) (args : List SV) (i j : Nat), ((frzArgs l args).getD i .undef).cells[j]? = (args.getD i .undef).cells[j]? ∨ ∃ e ys, (args.getD i .undef).cells[j]? = some (.own e ys) ∧ ((frzArgs l args).getD i .undef).cells[j]? = some (.d (.sl e ys))
  | [], args, i, j => .inl rfl
  | (i0, j0) :: l, args, i, j => by
    simp only [frzArgs]
    have h1 : ((args.set i0 (frz1 (args.getD i0 .undef) j0)).getD i .undef).cells[j]? = (args.getD i .undef).cells[j]? ∨ ∃ e ys, (args.getD i .undef).cells[j]? = some (.own e ys) ∧ ((args.set i0 (frz1 (args.getD i0 .undef) j0)).getD i .undef).cells[j]? = some (.d (.sl e ys)) := by
      by_cases hi : i0 = i
      · subst hi
        by_cases hl : i0 < args.length
        · have e1 : (args.set i0 (frz1 (args.getD i0 .undef) j0)).getD i0 .undef = frz1 (args.getD i0 .undef) j0 := by
            simp [List.getD_eq_getElem?_getD, hl]
          rw [e1]
          exact frz1_cells _ _ _
        · left
          simp [List.getD_eq_getElem?_getD, List.getElem?_eq_none (Nat.le_of_not_lt hl), List.set_eq_of_length_le (Nat.le_of_not_lt hl)]
      · left
        simp [List.getD_eq_getElem?_getD, List.getElem?_set, hi]
    rcases frzArgs_cells l (args.set i0 (frz1 (args.getD i0 .undef) j0)) i j with h2 | ⟨e, ys, h2, h3⟩
    · rw [h2]; exact h1
    · rcases h1 with h1 | ⟨e', ys', h1, h4⟩
      · right; rw [h1] at h2; exact ⟨e, ys, h2, h3⟩
      · rw [h4] at h2; cases h2
theorem frzArgs_length : ∀ (l : List (Nat × Nat)) (args : List SV), (frzArgs l args).length = args.length
  | [], _ => rfl
  | (i, j) :: l, args => by simp [frzArgs, frzArgs_length l]


/-- whose the blocks are, for the caller -/
def outω (ks : List Key) (ω : Nat → Option Holder) (b : Nat) : Option Holder :=
  match ω b with
  | some (.tmp 0, j) => some (.tmp 0, j)
  | _ => idxω ks ω b
theorem outω_some {ks : List Key} {b : Nat} {g : Holder} (h : outω ks ω b = some g) : ∃ g', ω b = some g' := by
  unfold outω idxω at h
  cases hω : ω b with
  | none => rw [hω] at h; cases h
  | some g' => exact ⟨g', rfl⟩

theorem exit_good {P : Program} {N : Nat} {w0 : World} {vals : Array Value} {β0 : Key → Option Nat} {ω0 : Nat → Option Holder} {Z0 : Nat → Prop} {args : List SV} {r : CallRes} {fn : Func} {nb : Nat}
    (hT : Tabs P cfg) (h : Rel (ctxOf P N w0 vals β0 ω0 Z0) β ω Z s a w) (hsz : vals.size = args.length) (hok : args.all argOk = true) {e0 : Act} {s0 : St} {w1 : World}
    (hent : ∀ i, SVRel (CRel (ctxOf P 0 w0 vals β0 ω0 Z0) β0 Z0 s0 e0 w1) (vals.getD i undef) (args.getD i .undef))
    (hβ0 : ∀ k b, β0 k = some b → ∃ i, i < nb ∧ k = .inb i)
    {s' : St} (he : (exitP cfg fn.results.toList nb).exec s = some ((r.v, r.boxes), s')) (hfrz : ∀ i, i < args.length → (s' (.arg i)).v = (frzArgs r.frz args).getD i .undef) :
    ∃ u β' ω' Z', (results fn a.tmps).run P w = .ok u w ∧ Rel (ctxOf P 1 w0 vals β0 ω0 Z0) β' ω' Z' (exitSt args r) { tmps := #[u], defers := [] } w := by
  unfold exitP at he
  obtain ⟨vs, s1, h1, he1⟩ := exec_bind' he
  obtain ⟨hs1, us, hus, hvs⟩ := readRs_spec (K := ctxOf P N w0 vals β0 ω0 Z0) hT h _ _ _ h1
  rw [hs1] at he1
  generalize hks : outKeys nb (vs.flatMap SV.cells) = ks at he1
  obtain ⟨_, s2, h2, he2⟩ := exec_bind' he1
  obtain ⟨ω1, Z1, r1, v1⟩ := settles_spec _ _ _ _ _ _ h h2 hvs
  obtain ⟨vs1, s3, h3, he3⟩ := exec_bind' he2
  obtain ⟨ω2, Z2, r2, k2, v2⟩ := argSVs_spec _ _ _ _ _ _ _ r1 v1 h3
  have hv := outV_rel v2
  obtain ⟨v3, s4, h4, he4⟩ := exec_bind' he3
  obtain ⟨ω3, Z3, r3, k3, p3⟩ := stashSV_spec r2 hv.1 hv.2 h4
  obtain ⟨bs, s5, h5, he5⟩ := exec_bind' he4
  obtain ⟨hs5, hbl, hbx⟩ := getBoxes_spec _ s5 bs h5
  rw [hs5] at he5
  obtain ⟨v5, s6, h6, he6⟩ := exec_bind' he5
  obtain ⟨hv6, hs6⟩ := exec_ret he6
  obtain ⟨hs7, hcells, hout⟩ := outSV_spec h6
  have hv7 : r.v = v5 := congrArg Prod.fst hv6
  have hb7 : r.boxes = bs := congrArg Prod.snd hv6
  have hs' : s' = s4 := by rw [hs6, hs7]
  rw [hs'] at hfrz
  have hnd : ks.Nodup := by rw [← hks]; exact outKeys_nodup _ _
  have hinb : ∀ i, i < nb → ks[i]? = some (.inb i) := fun i hi => by rw [← hks]; exact outKeys_get hi _
  have hidx : ∀ i, i < nb → idxβ ks β (.inb i) = β (.inb i) := fun i hi => by
    have := idxβ_of (List.mem_of_getElem? (hinb i hi)) β
    rwa [idx_get hnd (hinb i hi)] at this
  refine ⟨combV us, idxβ ks β, outω ks ω3, Z3, results_run (K := ctxOf P N w0 vals β0 ω0 Z0) hus, ?_⟩
  -- the boxes
  have hbox : ∀ (k : Key) (cs' : List C), (exitSt args r (.box k)).v = .agg cs' → ∃ i k' cs, k = .inb i ∧ ks[i]? = some k' ∧ (s4 (.box k')).v = .agg cs ∧ cs' = cs.map (tc ks) ∧ cs.all (tok ks) = true := by
    intro k cs hk
    cases k with
    | inb i =>
      simp only [exitSt, hb7] at hk
      cases hbi : bs[i]? with
      | none => rw [hbi] at hk; cases hk
      | some cs' =>
        rw [hbi] at hk
        cases hk
        have hi : i < ks.length := by rw [← hbl]; exact (List.getElem?_eq_some_iff.1 hbi).1
        obtain ⟨cs2, g1, g2, g3⟩ := hbx i _ (List.getElem?_eq_getElem hi)
        rw [hbi] at g1
        cases g1
        exact ⟨i, _, cs2, rfl, List.getElem?_eq_getElem hi, g2, rfl, g3⟩
    | loc t => simp [exitSt] at hk
    | esc t i => simp [exitSt] at hk
  have hω : ∀ (i : Nat) (k' : Key) (j : Option Nat) (b : Nat), ks[i]? = some k' → ω3 b = some (.box k', j) → outω ks ω3 b = some (.box (.inb i), j) := by
    intro i k' j b hi hb
    have hm : k' ∈ ks := List.mem_of_getElem? hi
    simp only [outω, hb, idxω, hm, if_true, idx_get hnd hi]
  have hargv : ∀ i, (exitSt args r (.arg i)).v = if i < args.length then (s4 (.arg i)).v else .undef := by
    intro i
    show (frzArgs r.frz args).getD i .undef = _
    split
    · rename_i hi; exact (hfrz i hi).symm
    · rename_i hi
      rw [List.getD_eq_getElem?_getD, List.getElem?_eq_none (by rw [frzArgs_length]; omega)]
      rfl
  refine ⟨rfl, rfl, r3.os, r3.tape, r3.output, r3.base, r3.frame, r3.zin, r3.zold, ?_, ?_, ?_, ?_, ?_, ?_, ?_, ?_⟩
  · intro b hb
    rcases r3.znew b hb with g | g | g | ⟨i, j, e, ys, u0, g1, g2, g3⟩
    · exact .inl g
    · exact .inr (.inl g)
    · exact .inr (.inr (.inl g))
    · refine .inr (.inr (.inr ⟨i, j, e, ys, u0, ?_, g2, g3⟩))
      have hi : i < args.length := by
        rw [← hsz]
        by_cases hi : i < vals.size
        · exact hi
        · exfalso
          have g2' : (flat (vals.getD i undef))[j]? = some u0 := g2
          rw [Array.getD_eq_getD_getElem?, Array.getElem?_eq_none (by omega)] at g2'
          simp [undef, flat] at g2'
      rw [hargv, if_pos hi]
      exact g1
  · intro t
    cases t with
    | zero =>
      show SVRel _ (combV us) r.v
      rw [hv7]
      exact hout (CRel (ctxOf P N w0 vals β0 ω0 Z0) β Z3 s4 a w) (CRel (ctxOf P 1 w0 vals β0 ω0 Z0) (idxβ ks β) Z3 (exitSt args r) { tmps := #[combV us], defers := [] } w) (fun c c' u hc hr => hc.1 _ _ _ _ _ _ _ _ _ _ hr) _ p3.1
    | succ t => exact trivial
  · intro i
    rw [hargv]
    split
    · rename_i hi
      refine SVRel.monoI (fun j c u hc hu hr => ?_) (r3.args i)
      have hfz := frzArgs_cells r.frz args i j
      rw [← hfrz i hi, hc] at hfz
      have hargs : ∀ c0, (args.getD i .undef).cells[j]? = some c0 → argOkC c0 = true := fun c0 hac => by
        have : argOk (args.getD i .undef) = true := by
          rw [List.getD_eq_getElem?_getD, List.getElem?_eq_getElem hi]
          exact List.all_eq_true.1 hok _ (List.getElem_mem hi)
        exact List.all_eq_true.1 this _ (List.mem_of_getElem? hac)
      cases c with
      | d x => exact hr
      | own e xs => exact hr
      | dead => trivial
      | da xs => exact hr
      | _ =>
        rcases hfz with hfz | ⟨e, ys, _, hfz⟩
        · have hac := hfz.symm
          obtain ⟨u', q1, q2⟩ := (hent i).cell hac
          have hargok := hargs _ hac
          first
            | (cases hargok; done)
            | (obtain ⟨b0, f1, _⟩ := q2
               obtain ⟨i0, hi0, rfl⟩ := hβ0 _ _ f1
               obtain ⟨b, f2, f3⟩ := hr
               exact ⟨b, by rw [hidx _ hi0]; exact f2, f3⟩)
            | (obtain ⟨vs0, f1, f2⟩ := q2
               obtain ⟨vs2, f3, f4⟩ := hr
               refine ⟨vs2, f3, f4.mono_mem fun u p hp ⟨b, t1, t2⟩ => ?_⟩
               obtain ⟨l, hl⟩ := List.getElem?_of_mem hp
               obtain ⟨u0, _, b0, t3, _⟩ := f2.get hl
               obtain ⟨i0, hi0, hk0⟩ := hβ0 _ _ t3
               rw [hk0] at t1
               exact ⟨b, by rw [hk0, hidx _ hi0]; exact t1, t2⟩)
        · cases hfz
    · trivial
  · intro k
    cases hkv : (exitSt args r (.box k)).v with
    | agg cs =>
      obtain ⟨i, k', cs0, rfl, hi, g1, rfl, g2⟩ := hbox k cs hkv
      obtain ⟨b, ws, el, lo, hi', f1, f2, f3, f4, f5⟩ := BoxRel.cell r3 g1
      refine ⟨b, ws, el, lo, hi', ?_, hω i k' none b hi f2, f3, f4, f5.map_right fun u c hc hr => crel_tc (tok_mem g2 hc) hr⟩
      have := idxβ_of (List.mem_of_getElem? hi) β
      rw [idx_get hnd hi] at this
      rw [this]
      exact f1
    | undef =>
      show idxβ ks β k = none
      cases hβ : idxβ ks β k with
      | none => rfl
      | some b =>
        obtain ⟨i, k', rfl, hi, g⟩ := idxβ_some hβ
        obtain ⟨cs, g1, g2, g3⟩ := hbx i k' hi
        simp only [exitSt, hb7, g1] at hkv
        cases hkv
    | one c => cases k <;> simp only [exitSt] at hkv <;> (try (split at hkv)) <;> cases hkv
    | tup c => cases k <;> simp only [exitSt] at hkv <;> (try (split at hkv)) <;> cases hkv
  · intro q j e xs u1 b1 hr hc hh hb1
    cases q with
    | tmp t =>
      cases t with
      | zero =>
        have hc' : r.v.cells[j]? = some (.own e xs) := hc
        rw [hv7] at hc'
        obtain ⟨c0, q1, q2⟩ := hcells.get hc'
        have := q2.2 e xs rfl
        subst this
        have hp := (p3.2 j _ _ q1 hh).2 e xs b1 rfl hb1
        exact ⟨by simp only [outω, hp.1], hp.2.1⟩
      | succ t => simp [exitSt, SV.cells] at hc
    | arg i => simp [Res.isArg] at hr
    | box k =>
      cases hv : (exitSt args r (.box k)).v with
      | agg cs =>
        obtain ⟨i, k', cs0, rfl, hi, g1, rfl, g2⟩ := hbox k cs hv
        rw [hv] at hc
        have hc : (cs0.map (tc ks))[j]? = some (.own e xs) := hc
        have hc0 : cs0[j]? = some (.own e xs) := by
          rw [List.getElem?_map] at hc
          cases hcj : cs0[j]? with
          | none => rw [hcj] at hc; cases hc
          | some c0 => rw [hcj] at hc; simp only [Option.map_some, Option.some.injEq] at hc; rw [tc_own hc]
        have hβ : idxβ ks β (.inb i) = β k' := by
          have := idxβ_of (List.mem_of_getElem? hi) β
          rw [idx_get hnd hi] at this
          exact this
        have hh' : hdr (ctxOf P N w0 vals β0 ω0 Z0) β a w (.box k') j = some u1 := by
          simp only [hdr, hβ] at hh
          exact hh
        obtain ⟨p1, p2⟩ := r3.own (.box k') j e xs u1 b1 rfl (by rw [g1]; exact hc0) hh' hb1
        exact ⟨hω i k' (some j) _ hi p1, p2⟩
      | undef => rw [hv] at hc; simp [SV.cells] at hc
      | one c => cases k <;> simp only [exitSt] at hv <;> (try (split at hv)) <;> cases hv
      | tup c => cases k <;> simp only [exitSt] at hv <;> (try (split at hv)) <;> cases hv
  · intro i j e xs u1 b1 hc hh hb1
    rw [hargv] at hc
    split at hc
    · exact r3.argown i j e xs u1 b1 hc hh hb1
    · simp [SV.cells] at hc
  · intro b g hb
    obtain ⟨g', hg'⟩ := outω_some hb
    exact r3.ωok b g' hg'
  · intro k b hb
    obtain ⟨i, hi, rfl⟩ := hβ0 k b hb
    rw [hidx i hi]
    exact r3.βold _ b hb

end
end
end Go.Vs
namespace Go.Vs
theorem lk_startSlots (t : Nat) : ∀ (args : List SV) (i : Nat), lk t (startSlots i args) = if i ≤ t ∧ t < i + args.length then some (startSV t (args.getD (t - i) .undef)) else none
 | [], i => by simp [startSlots, lk]
 | v :: vs, i => by
  simp only [startSlots, lk_cons]
  by_cases h : t = i
  ·subst h; simp
  ·rw [if_neg h, lk_startSlots t vs (i + 1)]
   by_cases h2 : i + 1 ≤ t ∧ t < i + 1 + vs.length
   ·rw [if_pos h2, if_pos (by simp; omega)]
    rw [show t - i = (t - (i + 1)) + 1 by omega]
    simp
   ·rw [if_neg h2, if_neg (by simp; omega)]
theorem lkK_startBoxes : ∀ (bs : List (List C)) (i : Nat) (k : Key), lkK k (startBoxes i bs) = match k with | .inb l => if i ≤ l then bs[l - i]? else none | _ => none
 | [], i, k => by cases k <;> simp [startBoxes, lkK]
 | b :: bs, i, k => by
  simp only [startBoxes, lkK]
  rw [lkK_startBoxes bs (i + 1) k]
  cases k with
  | inb l =>
   simp only [Key.inb.injEq]
   by_cases h : l = i
   ·subst h; simp
   ·rw [if_neg h]
    by_cases h2 : i + 1 ≤ l
    ·rw [if_pos h2, if_pos (by omega), show l - i = (l - (i + 1)) + 1 by omega]; simp
    ·rw [if_neg h2, if_neg (by omega)]
  | loc t => simp
  | esc t j => simp
section
variable {P : Program} {w : World} {vals : Array Value} {β : Key → Option Nat} {ω : Nat → Option Holder} {Z : Nat → Prop} {args : List SV} {boxes : List (List C)}
theorem start_tmp (t : Nat) : ((startPS args boxes).st (.tmp t)).v = if t < args.length then RV.copy { v := args.getD t .undef } (.arg t) else .undef := by
 show (lk t (startSlots 0 args)).getD .undef = _
 rw [lk_startSlots]
 by_cases h : t < args.length
 ·simp [h, startSV]
 ·simp [h]
theorem start_box (k : Key) : ((startPS args boxes).st (.box k)).v = (entrySt args boxes (.box k)).v := by
 show (match lkK k (startBoxes 0 boxes) with | some cs => SV.agg cs | none => .undef) = _
 rw [lkK_startBoxes]
 cases k with
 | inb i => simp [entrySt] <;> cases boxes[i]? <;> rfl
 | loc t => rfl
 | esc t j => rfl
theorem argOk_get (hok : args.all argOk = true) {i j : Nat} {c : C} (hc : (args.getD i .undef).cells[j]? = some c) : argOkC c = true := by
 rw [List.getD_eq_getElem?_getD] at hc
 cases hi : args[i]? with
 | none => rw [hi] at hc; simp [SV.cells] at hc
 | some v =>
  rw [hi] at hc
  have := List.all_eq_true.1 hok v (List.mem_of_getElem? hi)
  exact List.all_eq_true.1 this c (List.mem_of_getElem? hc)
theorem start_rel {N : Nat} (hent : Rel (ctxOf P 0 w vals β ω Z) β ω Z (entrySt args boxes) { tmps := #[], defers := [] } w) (hsz : vals.size = args.length) (hok : args.all argOk = true) (hpl : boxes.all (fun b => b.all (bok boxes.length)) = true) (hN : args.length ≤ N) :
  Rel (ctxOf P N w vals β ω Z) β ω Z (startPS args boxes).st { tmps := vals ++ Array.replicate (N - vals.size) undef, defers := [] } w := by
 have harg : ∀ (i j : Nat) (c : C) (u : Value), argOkC c = true → CRel (ctxOf P 0 w vals β ω Z) β Z (entrySt args boxes) { tmps := #[], defers := [] } w c u →
   CRel (ctxOf P N w vals β ω Z) β Z (startPS args boxes).st { tmps := vals ++ Array.replicate (N - vals.size) undef, defers := [] } w c u := by
  intro i j c u hc h
  cases c <;> first | (cases hc; done) | exact h
 refine ⟨?_, rfl, hent.os, hent.tape, hent.output, hent.base, hent.frame, hent.zin, hent.zold, ?_, ?_, ?_, ?_, ?_, ?_, hent.ωok, hent.βold⟩
 ·show (vals ++ Array.replicate (N - vals.size) undef).size = N
  simp; omega
 ·exact hent.znew
 ·intro t
  rw [start_tmp]
  split
  ·rename_i ht
   have hcp := hent.copy (r := .arg t) (hent.args t) (fun _ => rfl)
   have hval : (vals ++ Array.replicate (N - vals.size) undef).getD t undef = vals.getD t undef := by
    simp only [Array.getD_eq_getD_getElem?]
    rw [Array.getElem?_append_left (by omega)]
   show SVRel _ ((vals ++ Array.replicate (N - vals.size) undef).getD t undef) _
   rw [hval]
   refine SVRel.monoI (fun j c u hc hu hr => ?_) hcp.1
   have hc' := hc
   rw [copy_cells, bcells_get] at hc'
   simp only at hc'
   cases hc0 : (args.getD t .undef).cells[j]? with
   | none => rw [hc0] at hc'; cases hc'
   | some c0 =>
    rw [hc0] at hc'
    simp only [Option.map_some, Nat.zero_add, Option.some.injEq] at hc'
    have hok0 := argOk_get hok hc0
    subst hc'
    cases c0 with
    | own e xs => exact hr
    | bor => cases hok0
    | ea => cases hok0
    | da => cases hok0
    | dead => cases hok0
    | d x => exact hr
    | ptr k off => exact hr
    | clo f caps => exact hr
  ·trivial
 ·intro i
  refine SVRel.monoI (fun j c u hc hu hr => ?_) (hent.args i)
  exact harg i j c u (argOk_get hok hc) hr
 ·intro k
  rw [start_box]
  have hb := hent.boxes k
  cases hv : (entrySt args boxes (.box k)).v with
  | agg cs =>
   obtain ⟨b, ws, el, lo, hi, g1, g2, g3, g4, g5⟩ := BoxRel.cell hent hv
   refine ⟨b, ws, el, lo, hi, g1, g2, g3, g4, g5.mono_mem fun u c hc hr => crel_bok (n := boxes.length) (bok_mem ?_ hc) hr⟩
   cases k with
   | inb i =>
    simp only [entrySt] at hv
    cases hbi : boxes[i]? with
    | none => rw [hbi] at hv; cases hv
    | some b => rw [hbi] at hv; cases hv; exact List.all_eq_true.1 hpl _ (List.mem_of_getElem? hbi)
   | loc t => simp [entrySt] at hv
   | esc t i => simp [entrySt] at hv
  | undef => rw [hv] at hb; exact hb
  | one c => rw [hv] at hb; exact hb.elim
  | tup c => rw [hv] at hb; exact hb.elim
 ·intro r j e xs u1 b1 hr hc hh hb1
  cases r with
  | tmp t =>
   rw [start_tmp] at hc
   split at hc
   ·exfalso
    rw [copy_cells, bcells_get] at hc
    cases hc0 : (args.getD t .undef).cells[j]? with
    | none => simp only at hc; rw [hc0] at hc; cases hc
    | some c0 =>
     simp only at hc
     rw [hc0] at hc
     simp only [Option.map_some, Option.some.injEq] at hc
     exact bcell_noOwn _ _ _ _ e xs hc
   ·simp [SV.cells] at hc
  | arg i => simp [Res.isArg] at hr
  | box k =>
   rw [start_box] at hc
   exact hent.own (.box k) j e xs u1 b1 rfl hc hh hb1
 ·intro i j e xs u1 b1 hc hh hb1
  exact hent.argown i j e xs u1 b1 hc hh hb1
theorem entry_keys (hent : Rel (ctxOf P 0 w vals β ω Z) β ω Z (entrySt args boxes) { tmps := #[], defers := [] } w) : ∀ k b, β k = some b → ∃ i, i < boxes.length ∧ k = .inb i := by
 intro k b hb
 have h := hent.boxes k
 cases k with
 | inb i =>
  by_cases hi : i < boxes.length
  ·exact ⟨i, hi, rfl⟩
  ·have hv : (entrySt args boxes (.box (.inb i))).v = .undef := by simp [entrySt, List.getElem?_eq_none (Nat.le_of_not_lt hi)]
   rw [hv] at h
   simp only [BoxRel] at h
   rw [h] at hb
   cases hb
 | loc t => simp only [entrySt, BoxRel] at h; rw [h] at hb; cases hb
 | esc t i => simp only [entrySt, BoxRel] at h; rw [h] at hb; cases hb
def FnCalls (P : Program) (f : FuncId) (F : AFun) : Prop :=
 ∀ (args : List SV) (boxes : List (List C)) (r : CallRes), F args boxes = some r → ∀ (w : World) (vals : Array Value) (β : Key → Option Nat) (ω : Nat → Option Holder) (Z : Nat → Prop),
  vals.size = args.length → args.all argOk = true → boxes.all (fun b => b.all (bok boxes.length)) = true → Rel (ctxOf P 0 w vals β ω Z) β ω Z (entrySt args boxes) { tmps := #[], defers := [] } w →
  Calls P f vals w fun e w' => ∃ v β' ω' Z', e = .returned v ∧ Rel (ctxOf P 1 w vals β ω Z) β' ω' Z' (exitSt args r) { tmps := #[v], defers := [] } w'
theorem fn_calls {f : FuncId} {fn : Func} {c : Code} {V : VF} {F : AFun} (hf : P.funcs[f]? = some fn) (hb : fn.body = some c) (hmix : P.follows .mixedOrders = true) (hC : COK P V.cfg) (hN : fn.ntmps = V.cfg.N)
  (hcon : ∀ (args : List SV) (boxes : List (List C)) (r : CallRes), F args boxes = some r → args.length ≤ fn.ntmps ∧ (∀ i, i < boxes.length → Key.inb i ∈ V.bkeys) ∧ awp V c (startPS args boxes) (Ends V.cfg fn.results.toList args boxes.length r)) : FnCalls P f F := by
 intro args boxes r hF w vals β ω Z hsz hok hpl hent
 obtain ⟨hlen, hkeys, hawp⟩ := hcon args boxes r hF
 refine calls_of_wp hf hb ?_
 have hstart := start_rel (N := fn.ntmps) hent hsz hok hpl hlen
 have hek := entry_keys hent
 have hko : KeyOK (ctxOf P fn.ntmps w vals β ω Z) V := by
  intro k b hkb
  obtain ⟨i, hi, rfl⟩ := hek k b hkb
  exact ⟨rfl, hkeys i hi⟩
 refine wp_mono (awp_sound (K := ctxOf P fn.ntmps w vals β ω Z) hC hN hmix hko c (startPS args boxes) _ _ w hawp ⟨⟨β, ω, Z, hstart⟩, by show args.length = vals.size; omega⟩) ?_
 rintro e a w' ⟨ex, p', rfl, ⟨hex, hE⟩, ⟨β1, ω1, Z1, hr⟩, hpl'⟩
 cases hx : (exitP V.cfg fn.results.toList boxes.length).exec p'.st with
 | none => rw [hx] at hE; exact hE.elim
 | some x =>
  obtain ⟨⟨v, bs⟩, s'⟩ := x
  rw [hx] at hE
  obtain ⟨rfl, rfl, hfz⟩ := hE
  obtain ⟨u, β', ω', Z', g1, g2⟩ := exit_good hC.tabs hr hsz hok hent.args hek hx hfz
  have : bodyPost P fn (fun e w' => ∃ v β' ω' Z', e = .returned v ∧ Rel (ctxOf P 1 w vals β ω Z) β' ω' Z' (exitSt args r) { tmps := #[v], defers := [] } w') .ret a w' :=
   ⟨hr.defers, u, g1, u, β', ω', Z', rfl, g2⟩
  rcases hex with rfl | rfl
  ·exact this
  ·exact this
theorem run_callFunc_enter {P : Program} {f : FuncId} {fn : Func} {c : Code} (hf : P.funcs[f]? = some fn) (hname : (fn.name == "runtime.NumGoroutine") = false) (hb : fn.body = some c) (args : Array Value) (w : World) :
  (callFunc f args).run P w = .ok (.enter f args) w := by
 have h1 : fn.name ≠ "runtime.NumGoroutine" := by simpa using hname
 simp [callFunc, hf, h1, hb]
theorem fn_ok {f : FuncId} {fn : Func} {c : Code} {F : AFun} (hf : P.funcs[f]? = some fn) (hname : (fn.name == "runtime.NumGoroutine") = false) (hb : fn.body = some c) (h : FnCalls P f F) : CallOK P f F :=
 fun args boxes r hF w vals β ω Z hsz hok hpl hent => .inl ⟨run_callFunc_enter hf hname hb vals w, h args boxes r hF w vals β ω Z hsz hok hpl hent⟩
end
end Go.Vs
namespace Go.Vs
open Go.ChangeShapes
def WfFs (W : TypeId → List D → Prop) : List (Nat × TypeId) → List D → Prop
 | [], ds => ds = []
 | (_, t) :: r, ds => ∃ a b, ds = a ++ b ∧ W t a ∧ WfFs W r b
def WfD (cfg : Cfg) : Nat → TypeId → List D → Prop
 | 0, _, _ => False
 | n + 1, t, ds => match cfg.ti t with
  | some { kind := .bool, .. } => ∃ b, ds = [.bool b]
  | some { kind := .int k, .. } => ∃ x, ds = [.int k x] ∧ k.min ≤ x ∧ x ≤ k.max
  | some { kind := .str, .. } => ∃ s, ds = [.str s] ∧ s.length ≤ maxLen
  | some { kind := .slice e, .. } => match cfg.ti e with
   | some i => ds = [.nil] ∨ ∃ xs, ds = [.sl i.size xs] ∧ xs.length ≤ maxLen ∧ ∀ x ∈ xs, WfD cfg n e x
   | none => False
  | some { kind := .struct fs, .. } => WfFs (WfD cfg n) fs ds
  | _ => False
def tiles (cfg : Cfg) (p : TypeId → Bool) : List (Nat × TypeId) → Nat → Nat → Bool
 | [], o, size => o == size
 | (off, t) :: r, o, size => match cfg.ti t with
  | some i => off == o && p t && tiles cfg p r (o + i.size) size
  | none => false
def plainT (cfg : Cfg) : Nat → TypeId → Bool
 | 0, _ => false
 | n + 1, t => match cfg.ti t with
  | some { kind := .bool, size, .. } => size == 1
  | some { kind := .int _, size, .. } => size == 1
  | some { kind := .str, size, .. } => size == 1
  | some { kind := .slice e, size, .. } => size == 1 && plainT cfg n e && (match cfg.ti e with | some i => decide (0 < i.size) && !isMap i.size | none => false)
  | some { kind := .struct fs, size, .. } => tiles cfg (plainT cfg n) fs 0 size
  | _ => false
mutual
def bulkD : D → Nat
 | .str s => s.length + 1
 | .sl _ xs => bulkLL xs + 1
 | _ => 1
def bulkL : List D → Nat
 | [] => 0
 | d :: r => bulkD d + bulkL r
def bulkLL : List (List D) → Nat
 | [] => 0
 | x :: r => bulkL x + bulkLL r
end
theorem bulkL_append : ∀ (a b : List D), bulkL (a ++ b) = bulkL a + bulkL b
 | [], b => by simp [bulkL]
 | d :: a, b => by simp [bulkL, bulkL_append a b]; omega
structure Bulk (H : Type) where
 one : DataW H → Nat
 all : List (DataW H) → Nat
 str : ∀ b, one (.lit (.string b)) = b.length + 1
 slice : ∀ x y, one (.slice x y) = all x + all y + 1
 agg : ∀ x, one (.agg x) = all x + 1
 pos : ∀ d, 1 ≤ one d
 nil : all [] = 0
 cons : ∀ d r, all (d :: r) = one d + all r
theorem mapM_opt_get {α β : Type} {f : α → Option β} : ∀ {l : List α} {r : List β}, l.mapM f = some r → r.length = l.length ∧ ∀ (i : Nat) (x : α), l[i]? = some x → ∃ y, r[i]? = some y ∧ f x = some y
 | [], r, h => by simp at h; subst h; simp
 | a :: l, r, h => by
  simp only [List.mapM_cons, Option.bind_eq_bind, Option.pure_def] at h
  obtain ⟨b, hb, h⟩ := Option.bind_eq_some_iff.1 h
  obtain ⟨r', hr, h⟩ := Option.bind_eq_some_iff.1 h
  cases h
  obtain ⟨h1, h2⟩ := mapM_opt_get hr
  refine ⟨by simp [h1], fun i x hi => ?_⟩
  cases i with
  | zero => simp only [List.getElem?_cons_zero, Option.some.injEq] at hi; subst hi; exact ⟨b, rfl, hb⟩
  | succ i => simp only [List.getElem?_cons_succ] at hi; exact h2 i x hi
theorem cells?_get {w : World} {base : Nat} {a : Addr} {n : Nat} {cs : List Value} (h : w.cells? base a n = some cs) : cs.length = n ∧ ∀ i, i < n → w.cell? (a.add i) = cs[i]? := by
 unfold World.cells? at h
 split at h
 ·obtain ⟨h1, h2⟩ := mapM_opt_get h
  simp only [List.length_range] at h1
  refine ⟨h1, fun i hi => ?_⟩
  obtain ⟨y, g1, g2⟩ := h2 i i (by simp [hi])
  rw [g1]
  exact g2
 ·cases h
section
variable {H : Type} {enc : TypeId × Value → H} {P : Program} {w : World} {held : Bool} {cfg : Cfg}
theorem bulk_all (B : Bulk H) : ∀ (l : List (DataW H)) (f : List (List D)), All2 (fun d x => bulkL x ≤ B.one d) l f → bulkLL f ≤ B.all l
 | [], [], _ => by simp [bulkLL]
 | d :: l, x :: f, h => by
  have := bulk_all B l f h.2
  have := h.1
  simp only [bulkLL, B.cons]
  omega
theorem read_fields (hT : Tabs P cfg) (B : Bulk H) {W : TypeId → List D → Prop} {p : TypeId → Bool} {fuel : Nat} {cs : List Value} {size : Nat} (hlen : cs.length = size)
  (ih : ∀ t cs x, p t = true → DataW.trod enc P w 0 (fun _ => true) held fuel t cs = some x → ∃ ds, All2 (fun v d => DRel w (fun b => b < w.heap.size) d v) cs ds ∧ W t ds ∧ bulkL ds ≤ B.one x.1) :
  ∀ (fs : List Field) (o : Nat) (xs : List (DataW H × List MemPlace)), tiles cfg p (fs.map fun f => (f.offset, f.type)) o size = true → o ≤ size →
   xs.length = fs.length → (∀ (i : Nat) (f : Field), fs[i]? = some f → DataW.trod enc P w 0 (fun _ => true) held fuel f.type ((cs.drop f.offset).take (P.cellsOf f.type)) = xs[i]?) →
   ∃ ds, All2 (fun v d => DRel w (fun b => b < w.heap.size) d v) (cs.drop o) ds ∧ WfFs W (fs.map fun f => (f.offset, f.type)) ds ∧ bulkL ds ≤ B.all (xs.map (·.1)) := by
 intro fs
 induction fs with
 | nil =>
  intro o xs ht ho hl h
  simp only [List.map_nil, tiles, beq_iff_eq] at ht
  refine ⟨[], ?_, rfl, by simp [bulkL]⟩
  rw [List.drop_eq_nil_of_le (by omega)]
  trivial
 | cons f fs ihf =>
  intro o xs ht ho hl h
  simp only [List.map_cons, tiles] at ht
  split at ht
  ·rename_i i hi
   simp only [Bool.and_eq_true, beq_iff_eq] at ht
   obtain ⟨⟨h1, h2⟩, h3⟩ := ht
   have hsz : P.cellsOf f.type = i.size := by
    obtain ⟨info, d, g1, g2, g3, _⟩ := tiOf_parts (hT.T _ _ hi)
    simp [Program.cellsOf, g1, g3]
   obtain ⟨x, xs', rfl⟩ : ∃ x xs', xs = x :: xs' := by
    cases xs with
    | nil => simp at hl
    | cons x xs' => exact ⟨x, xs', rfl⟩
   have hx := h 0 f rfl
   simp only [List.getElem?_cons_zero] at hx
   obtain ⟨a, a1, a2, a3⟩ := ih _ _ _ h2 hx
   rw [hsz, h1] at a1
   have hle : ∀ (l : List (Nat × TypeId)) (o : Nat), tiles cfg p l o size = true → o ≤ size := by
    intro l
    induction l with
    | nil => intro o h; simp only [tiles, beq_iff_eq] at h; omega
    | cons y l ihl =>
     intro o h
     obtain ⟨off, t⟩ := y
     simp only [tiles] at h
     split at h
     ·simp only [Bool.and_eq_true] at h
      have := ihl _ h.2
      omega
     ·cases h
   have hle' := hle _ _ h3
   obtain ⟨b, b1, b2, b3⟩ := ihf (o + i.size) xs' h3 hle' (by simpa using hl) (fun l g hg => by have := h (l + 1) g (by simpa using hg); simpa using this)
   refine ⟨a ++ b, ?_, ⟨a, b, rfl, a2, b2⟩, ?_⟩
   ·have hsplit : cs.drop o = (cs.drop o).take i.size ++ cs.drop (o + i.size) := by
     rw [← List.drop_drop, List.take_append_drop]
    rw [hsplit]
    exact All2.append a1 b1
   ·rw [bulkL_append, List.map_cons, B.cons]
    omega
  ·cases ht
theorem read_data (hT : Tabs P cfg) (B : Bulk H) : ∀ (n : Nat) (t : TypeId) (fuel : Nat) (cs : List Value) (x : DataW H × List MemPlace), plainT cfg n t = true → DataW.trod enc P w 0 (fun _ => true) held fuel t cs = some x →
  ∃ ds, All2 (fun v d => DRel w (fun b => b < w.heap.size) d v) cs ds ∧ WfD cfg n t ds ∧ bulkL ds ≤ B.one x.1 := by
 intro n
 induction n with
 | zero => intro t fuel cs x hp; simp [plainT] at hp
 | succ n ih =>
  intro t fuel cs x hp h
  simp only [plainT] at hp
  simp only [WfD]
  split at hp
  ·rename_i size bytes zero hti
   obtain ⟨d, hd, hk, _⟩ := run_underlying' (w := w) (hT.T _ _ hti)
   have := tk_bool hk
   subst this
   obtain ⟨b, rfl, rfl⟩ := DataW.trod_bool hd h
   exact ⟨[.bool b], ⟨rfl, trivial⟩, ⟨_, rfl⟩, by simpa [bulkL, bulkD] using B.pos _⟩
  ·rename_i size bytes k zero hti
   obtain ⟨d, hd, hk, _⟩ := run_underlying' (w := w) (hT.T _ _ hti)
   have := tk_int hk
   subst this
   obtain ⟨b, rfl, rfl, hwf⟩ := DataW.trod_int hd h
   simp only [Lit.wf, Bool.and_eq_true, decide_eq_true_eq] at hwf
   exact ⟨[.int k b], ⟨rfl, trivial⟩, ⟨_, rfl, hwf⟩, by simpa [bulkL, bulkD] using B.pos _⟩
  ·rename_i size bytes zero hti
   obtain ⟨d, hd, hk, _⟩ := run_underlying' (w := w) (hT.T _ _ hti)
   have := tk_str hk
   subst this
   obtain ⟨b, rfl, rfl, hwf⟩ := DataW.trod_string hd h
   refine ⟨[.str b.data.toList], ⟨?_, trivial⟩, ⟨_, rfl, ?_⟩, ?_⟩
   ·simp [DRel]
   ·rw [Array.length_toList]; exact hwf
   ·simp [bulkL, bulkD, B.str]
  ·rename_i size bytes e zero hti
   obtain ⟨d, hd, hk, _⟩ := run_underlying' (w := w) (hT.T _ _ hti)
   have := tk_slice hk
   subst this
   simp only [Bool.and_eq_true] at hp
   obtain ⟨⟨_, hpe⟩, hpos⟩ := hp
   split at hpos
   ·rename_i i hi
    obtain ⟨hpos, hmp⟩ : 0 < i.size ∧ isMap i.size = false := by simpa using hpos
    have hsz : P.cellsOf e = i.size := by
     obtain ⟨info, d, g1, g2, g3, _⟩ := tiOf_parts (hT.T _ _ hi)
     simp [Program.cellsOf, g1, g3]
    rcases DataW.trod_slice hd h with ⟨rfl, rfl⟩ | ⟨a, len, cap, elems, rest, m, _, rfl, rfl, hb, hl, hm, hlen, hel, hsp, _⟩
    ·exact ⟨[.nil], ⟨rfl, trivial⟩, .inl rfl, by simpa [bulkL, bulkD] using B.pos _⟩
    obtain ⟨hrl, hrest⟩ := hsp rfl
    rw [hsz] at hel hrest
    have each : ∀ (j : Nat) (y : DataW H × List MemPlace), elems[j]? = some y → ∃ ds cs, w.cells? 0 (a.add (j * i.size)) i.size = some cs ∧ All2 (fun v d => DRel w (fun b => b < w.heap.size) d v) cs ds ∧ WfD cfg n e ds ∧ bulkL ds ≤ B.one y.1 := by
     intro j y hy
     have := hel j (by rw [← hlen]; exact (List.getElem?_eq_some_iff.1 hy).1)
     rw [hy] at this
     obtain ⟨cs, g1, g2⟩ := Option.bind_eq_some_iff.1 this
     obtain ⟨ds, q1, q2, q3⟩ := ih e m cs y hpe g2
     exact ⟨ds, cs, g1, q1, q2, q3⟩
    obtain ⟨f, hf⟩ := Go.Deep.choose_lt (α := List D) (n := len) (p := fun j ds => ∃ y cs, elems[j]? = some y ∧ w.cells? 0 (a.add (j * i.size)) i.size = some cs ∧ All2 (fun v d => DRel w (fun b => b < w.heap.size) d v) cs ds ∧ WfD cfg n e ds ∧ bulkL ds ≤ B.one y.1) (fun j hj => by
     have hy : elems[j]? = some elems[j] := List.getElem?_eq_getElem (by omega)
     obtain ⟨ds, cs, q⟩ := each j _ hy
     exact ⟨ds, _, cs, hy, q⟩)
    have hfget : ∀ (j : Nat) (x : List D), ((List.range len).map f)[j]? = some x → j < len ∧ x = f j := by
     intro j x hx
     have hj : j < len := by simpa using (List.getElem?_eq_some_iff.1 hx).1
     rw [List.getElem?_map, List.getElem?_range hj] at hx
     simp only [Option.map_some, Option.some.injEq] at hx
     exact ⟨hj, hx.symm⟩
    have hspot : cap = 0 ∨ a.spot = none ∧ a.block < w.heap.size := by
     rcases Nat.eq_zero_or_pos cap with hc | hc
     ·exact .inl hc
     right
     have hcell : ∃ v, w.cell? a = some v := by
      by_cases h0 : 0 < len
      ·obtain ⟨y, cs, q1, q2, q3⟩ := hf 0 h0
       obtain ⟨g1, g2⟩ := cells?_get q2
       have := g2 0 hpos
       rw [List.getElem?_eq_getElem (by omega)] at this
       exact ⟨_, by simpa [Addr.add] using this⟩
      ·have := hrest 0 (by omega)
       rw [List.getElem?_eq_getElem (by omega)] at this
       obtain ⟨cs, q2, _⟩ := Option.bind_eq_some_iff.1 this
       obtain ⟨g1, g2⟩ := cells?_get q2
       have := g2 0 hpos
       rw [List.getElem?_eq_getElem (by omega), show len + 0 = 0 by omega] at this
       exact ⟨_, by simpa [Addr.add] using this⟩
     obtain ⟨v, hv⟩ := hcell
     unfold World.cell? at hv
     split at hv
     ·rename_i hw
      split at hv
      ·cases hv
      ·rename_i hs
       exact ⟨by simpa using hs, (Array.getElem?_eq_some_iff.1 hw).1⟩
     ·cases hv
    refine ⟨[.sl i.size ((List.range len).map f)], ⟨(DRel.sl_iff hmp).2 ⟨a, cap, by simp, hspot, by simpa using hl, ?_⟩, trivial⟩, .inr ⟨_, rfl, by simp only [List.length_map, List.length_range]; omega, fun x hx => ?_⟩, ?_⟩
    ·refine RowsRel.of_get fun j x hx => ?_
     obtain ⟨hj, rfl⟩ := hfget j x hx
     obtain ⟨y, cs, q1, q2, q3, q4, q5⟩ := hf j hj
     obtain ⟨g1, g2⟩ := cells?_get q2
     have hlx : (f j).length = i.size := by rw [← q3.length, g1]
     refine ⟨hlx, RowRel.of_get fun l d hd => ?_⟩
     obtain ⟨v, e1, e2⟩ := q3.get hd
     have hll : l < i.size := by rw [← hlx]; exact (List.getElem?_eq_some_iff.1 hd).1
     have := g2 l hll
     rw [e1] at this
     obtain ⟨hsn, _⟩ := hspot.resolve_left (by omega)
     rw [add_of hsn, add_mk] at this
     exact ⟨v, this, e2⟩
    ·obtain ⟨j, hj0⟩ := List.getElem?_of_mem hx
     obtain ⟨hj, rfl⟩ := hfget j x hj0
     obtain ⟨y, cs, q1, q2, q3, q4, q5⟩ := hf j hj
     exact q4
    ·have hall : All2 (fun (d : DataW H) (x : List D) => bulkL x ≤ B.one d) (elems.map (·.1)) ((List.range len).map f) := by
      refine All2.of_get (by simp [hlen]) fun j d x hd hx => ?_
      obtain ⟨hj, rfl⟩ := hfget j x hx
      obtain ⟨y, cs, q1, q2, q3, q4, q5⟩ := hf j hj
      rw [List.getElem?_map, q1] at hd
      simp only [Option.map_some, Option.some.injEq] at hd
      rw [← hd]
      exact q5
     have := bulk_all B _ _ hall
     simp only [bulkL, bulkD, B.slice]
     omega
   ·cases hpos
  ·rename_i size bytes fs zero hti
   obtain ⟨d, hd, hk, _⟩ := run_underlying' (w := w) (hT.T _ _ hti)
   obtain ⟨fields, rfl, rfl⟩ := tk_struct hk
   obtain ⟨xs, m, _, rfl, hlen, hxl, hget⟩ := DataW.trod_struct hd h
   have hsz : P.cellsOf t = size := by
    obtain ⟨info, d, g1, g2, g3, _⟩ := tiOf_parts (hT.T _ _ hti)
    simp only at g3
    simp [Program.cellsOf, g1, g3]
   obtain ⟨ds, g1, g2, g3⟩ := read_fields hT B (hlen.trans hsz) (fun t cs x hp hx => ih t m cs x hp hx) fields.toList 0 xs hp (Nat.zero_le _) (by simpa using hxl) (fun i f hf => hget i f (by simpa using hf))
   refine ⟨ds, by simpa using g1, g2, ?_⟩
   rw [B.agg]
   omega
  ·cases hp
def toSV (cfg : Cfg) (t : TypeId) (ds : List D) : SV :=
 match cfg.ti t with
 | some i => if i.kind.agg then .agg (ds.map .d) else .one (.d (ds.headD .nil))
 | none => .undef
theorem All2_map {α β γ : Type} {R : α → γ → Prop} (f : β → γ) : ∀ {as : List α} {bs : List β}, All2 (fun a b => R a (f b)) as bs → All2 R as (bs.map f)
 | [], [], _ => trivial
 | _ :: _, _ :: _, h => ⟨h.1, All2_map f h.2⟩
theorem not_agg {r : Reach} {base : Nat} {t : TypeId} {v : Value} {d : TypeDesc} (hd : P.underlying t = some d) (hk : (tk d).agg = false) (hne : tk d = .bool ∨ (∃ k, tk d = .int k) ∨ tk d = .str ∨ ∃ e, tk d = .slice e) (h : Value.okWide P w r base t v) : isOne v = true := by
 have : ∃ x, d = .bool ∨ d = .string ∨ (∃ k, d = .int k) ∨ d = .slice x := by
  rcases hne with h | ⟨k, h⟩ | h | ⟨e, h⟩
  ·exact ⟨0, .inl (tk_bool h)⟩
  ·exact ⟨0, .inr (.inr (.inl ⟨k, tk_int h⟩))⟩
  ·exact ⟨0, .inr (.inl (tk_str h))⟩
  ·exact ⟨e, .inr (.inr (.inr (tk_slice h)))⟩
 obtain ⟨x, h1⟩ := this
 rcases h1 with rfl | rfl | ⟨k, rfl⟩ | rfl <;>
 ·simp only [Value.okWide, hd, Cell.okWide, Cell.ok] at h
  cases v <;> first | rfl | (exact h.elim)
theorem read_arg (hT : Tabs P cfg) (B : Bulk H) {n : Nat} {t : TypeId} {v : Value} {d : DataW H} {ps : List MemPlace} {r : Reach} {base : Nat} (hp : plainT cfg n t = true) (hval : Value.okWide P w r base t v) (h : DataW.Trod enc P w 0 (fun _ => true) held t v d ps) :
  ∃ ds, WfD cfg n t ds ∧ bulkL ds ≤ B.one d ∧ argOk (toSV cfg t ds) = true ∧ ∀ (K : Ctx) (β : Key → Option Nat) (s : St) (a : Act), SVRel (CRel K β (fun b => b < w.heap.size) s a w) v (toSV cfg t ds) := by
 obtain ⟨fuel, hf⟩ := h
 obtain ⟨ds, h1, h2, h3⟩ := read_data hT B n t fuel _ _ hp hf
 refine ⟨ds, h2, h3, ?_⟩
 cases n with
 | zero => simp [plainT] at hp
 | succ n =>
 have hone : ∀ (i : TI), cfg.ti t = some i → i.kind.agg = false → (i.kind = .bool ∨ (∃ k, i.kind = .int k) ∨ i.kind = .str ∨ ∃ e, i.kind = .slice e) →
   argOk (toSV cfg t ds) = true ∧ ∀ (K : Ctx) (β : Key → Option Nat) (s : St) (a : Act), SVRel (CRel K β (fun b => b < w.heap.size) s a w) v (toSV cfg t ds) := by
  intro i hi ha hk
  obtain ⟨d, hd, hk2, _⟩ := run_underlying' (w := w) (hT.T _ _ hi)
  rw [← hk2] at ha hk
  have h1v := not_agg hd ha hk hval
  rw [cells_of_isOne h1v] at h1
  match ds, h1 with
  | [x], h1 =>
   rw [hk2] at ha
   simp only [toSV, hi, ha]
   exact ⟨rfl, fun K β s a => ⟨h1v, h1.1⟩⟩
 simp only [plainT] at hp
 split at hp
 ·rename_i hi; exact hone _ hi rfl (.inl rfl)
 ·rename_i hi; exact hone _ hi rfl (.inr (.inl ⟨_, rfl⟩))
 ·rename_i hi; exact hone _ hi rfl (.inr (.inr (.inl rfl)))
 ·rename_i hi; exact hone _ hi rfl (.inr (.inr (.inr ⟨_, rfl⟩)))
 ·rename_i size bytes fs zero hi
  obtain ⟨d, hd, hk, _⟩ := run_underlying' (w := w) (hT.T _ _ hi)
  obtain ⟨fields, rfl, rfl⟩ := tk_struct hk
  simp only [Value.okWide, hd] at hval
  obtain ⟨cs, rfl, _⟩ := hval
  simp only [toSV, hi, TK.agg, if_true]
  refine ⟨by simp [argOk, SV.cells, argOkC], fun K β s a => ⟨cs, rfl, All2_map _ h1⟩⟩
 ·cases hp
end
end Go.Vs
namespace Go.Vs
open Go.ChangeShapes Go.RowKit
def svsOf (cfg : Cfg) : List TypeId → List (List D) → List SV
 | t :: ts, ds :: dss => toSV cfg t ds :: svsOf cfg ts dss
 | _, _ => []
section
variable {H : Type} {enc : TypeId × Value → H} {P : Program} {W : World} {cfg : Cfg}
theorem svs_length : ∀ (ts : List TypeId) (dss : List (List D)), dss.length = ts.length → (svsOf cfg ts dss).length = ts.length
 | [], [], _ => rfl
 | t :: ts, ds :: dss, h => by simp [svsOf, svs_length ts dss (by simpa using h)]
 | [], _ :: _, h => by simp at h
 | _ :: _, [], h => by simp at h
theorem read_args (hT : Tabs P cfg) (B : Bulk H) (n : Nat) {r : Reach} {base : Nat} : ∀ (ts : List TypeId) (vs : List Value) (ds : List (DataW H)) (ps : List MemPlace), (∀ t ∈ ts, plainT cfg n t = true) →
  (∀ (j : Nat) t v, ts[j]? = some t → vs[j]? = some v → Value.okWide P W r base t v) → DataW.TrodAll enc P W 0 (fun _ => true) true ts vs ds ps →
  ds.length = ts.length ∧ vs.length = ts.length ∧ ∃ dss, dss.length = ts.length ∧ All2 (fun t x => WfD cfg n t x) ts dss ∧ bulkLL dss ≤ B.all ds ∧ (svsOf cfg ts dss).all argOk = true ∧
   ∀ (K : Ctx) (β : Key → Option Nat) (s : St) (a : Act) (i : Nat), SVRel (CRel K β (fun b => b < W.heap.size) s a W) (vs.getD i undef) ((svsOf cfg ts dss).getD i .undef) := by
 intro ts
 induction ts with
 | nil =>
  intro vs ds ps _ _ h
  obtain ⟨rfl, rfl, _⟩ := trodAll_nil h
  exact ⟨rfl, rfl, [], rfl, trivial, by simp [bulkLL], rfl, fun _ _ _ _ i => by simp [svsOf, SVRel]⟩
 | cons t ts ih =>
  intro vs ds ps hp hval h
  obtain ⟨v, vs', d, ds', p, q, rfl, rfl, rfl, hd, hr⟩ := trodAll_cons h
  obtain ⟨x, x1, x2, x3, x4⟩ := read_arg (w := W) hT B (hp t (List.mem_cons_self ..)) (hval 0 t v rfl rfl) hd
  obtain ⟨l1, l2, dss, h1, h2, h3, h4, h5⟩ := ih vs' ds' q (fun t ht => hp t (List.mem_cons_of_mem _ ht)) (fun j t v ht hv => hval (j + 1) t v (by simpa using ht) (by simpa using hv)) hr
  refine ⟨by simp [l1], by simp [l2], x :: dss, by simp [h1], ⟨x1, h2⟩, ?_, ?_, fun K β s a i => ?_⟩
  ·simp only [bulkLL, B.cons]; omega
  ·simp only [svsOf, List.all_cons, Bool.and_eq_true]; exact ⟨x3, h4⟩
  ·cases i with
   | zero => exact x4 K β s a
   | succ i => exact h5 K β s a i
theorem args_again {W' : World} (hl : laidOutB P = true) (hb : Below W.heap.size W W') : ∀ (ts : List TypeId) (vs : List Value) (ds : List (DataW H)) (ps : List MemPlace), (∀ t ∈ ts, P.readableRec t = true ∧ t < P.types.size) → (∀ x ∈ ps, x.block < W.heap.size) →
  DataW.TrodAll enc P W 0 (fun _ => true) true ts vs ds ps → DataW.TrodAll enc P W' 0 (fun b => decide (b < W.heap.size)) true ts vs ds ps := by
 intro ts
 induction ts with
 | nil => intro vs ds ps _ _ h; obtain ⟨rfl, rfl, rfl⟩ := trodAll_nil h; exact trodAll_mk0
 | cons t ts ih =>
  intro vs ds ps hp hlt h
  obtain ⟨v, vs', d, ds', p, q, rfl, rfl, rfl, hd, hr⟩ := trodAll_cons h
  obtain ⟨g1, g2⟩ := hp t (List.mem_cons_self ..)
  exact trodAll_cons_mk (Below.trod hl g1 g2 hd hb fun x hx => hlt x (List.mem_append_left _ hx)) (ih vs' ds' q (fun t ht => hp t (List.mem_cons_of_mem _ ht)) (fun x hx => hlt x (List.mem_append_right _ hx)) hr)
theorem law_contract {base : Nat} {args : Array Value} {ds gs : List (DataW H)} {before : List MemPlace} {f : FuncId} {fn : Func} {sp : ChangeSpec} {F : AFun} {n : Nat} {ts : List TypeId} {tb : TypeId}
  (hF : FnCalls P f F) (hT : Tabs P cfg) (hvars : sp.vars = []) (hparams : fn.params.toList = ts) (hrt : fn.resultTypes = #[tb]) (hbool : P.underlying tb = some .bool)
  (hplain : ∀ t ∈ ts, plainT cfg n t = true) (hlaid : laidOutB P = true) (hread : ∀ t ∈ ts, P.readableRec t = true ∧ t < P.types.size) (B : Bulk H)
  (hres : ∀ dss, dss.length = ts.length → All2 (fun t x => WfD cfg n t x) ts dss → bulkLL dss ≤ B.all ds → F (svsOf cfg ts dss) [] = some { v := .one (.d (.bool true)), boxes := [], frz := [] })
  (hfn : ∀ ds : List (DataW H), ds.length = ts.length → sp.fn H (ds ++ []) = { results := [.lit (.bool true)], args := ds })
  (hval : ∀ (j : Nat) t v, fn.params[j]? = some t → args[j]? = some v → Value.okWide P W .any base t v)
  (hW : DataW.Whole enc P fn.params.toList sp.vars false W args.toList ds gs before) :
  Calls P f args W fun e W' => ∃ v, e = .returned v ∧ sp.post enc P fn false true false false W args v W' := by
 have hlt := hW.lt
 have hW' := hW
 obtain ⟨p, q, hA, hV, rfl, hfz, hnd⟩ := hW
 rw [hvars] at hV
 obtain ⟨rfl, rfl⟩ := trodVars_none hV
 rw [hparams] at hA
 obtain ⟨l1, l2, dss, h1, h2, h3, h4, h5⟩ := read_args hT B n ts args.toList ds p hplain (fun j t v ht hv => hval j t v (by rw [← hparams] at ht; simpa using ht) (by simpa using hv)) hA
 have hent : Rel (ctxOf P 0 W args (fun _ => none) (fun _ => none) (fun b => b < W.heap.size)) (fun _ => none) (fun _ => none) (fun b => b < W.heap.size) (entrySt (svsOf cfg ts dss) []) { tmps := #[], defers := [] } W := by
  have hboxv : ∀ k, (entrySt (svsOf cfg ts dss) [] (.box k)).v = .undef := by intro k; cases k <;> simp [entrySt]
  refine ⟨rfl, rfl, rfl, rfl, rfl, Nat.le_refl _, fun _ _ _ => rfl, fun _ h => h, fun _ h => h, fun b hb => .inl hb, ?_, ?_, ?_, ?_, ?_, ?_, fun _ _ h => h⟩
  ·intro t; exact trivial
  ·intro i
   have := h5 (ctxOf P 0 W args (fun _ => none) (fun _ => none) (fun b => b < W.heap.size)) (fun _ => none) (entrySt (svsOf cfg ts dss) []) { tmps := #[], defers := [] } i
   have e : args.toList.getD i undef = args.getD i undef := by simp [List.getD_eq_getElem?_getD, Array.getD_eq_getD_getElem?]
   rw [e] at this
   exact this
  ·intro k
   rw [hboxv]
   exact rfl
  ·intro r j e xs u1 b1 hr hc hh hb1
   cases r with
   | tmp t => simp [entrySt, SV.cells] at hc
   | arg i => simp [Res.isArg] at hr
   | box k => rw [hboxv] at hc; simp [SV.cells] at hc
  ·intro i j e xs u1 b1 hc hh hb1
   exfalso
   have hc' : ((svsOf cfg ts dss).getD i .undef).cells[j]? = some (.own e xs) := hc
   have key : ∀ (ts : List TypeId) (dss : List (List D)) (i j : Nat), ((svsOf cfg ts dss).getD i .undef).cells[j]? ≠ some (.own e xs) := by
    intro ts
    induction ts with
    | nil => intro dss i j; simp [svsOf, SV.cells]
    | cons t ts ih =>
     intro dss i j
     cases dss with
     | nil => simp [svsOf, SV.cells]
     | cons x dss =>
      cases i with
      | zero =>
       simp only [svsOf, List.getD_cons_zero, toSV]
       split
       ·split
        ·simp only [SV.cells, List.getElem?_map]
         cases x[j]? <;> simp
        ·cases j <;> simp [SV.cells]
       ·simp [SV.cells]
      | succ i => simpa [svsOf] using ih dss i j
   exact key ts dss i j hc'
  ·intro b g h; cases h
 have hsz : args.size = (svsOf cfg ts dss).length := by rw [svs_length _ _ h1, ← l2]; simp
 refine (hF _ _ _ (hres dss h1 h2 h3) W args _ _ _ hsz h4 rfl hent).mono ?_
 rintro e W' ⟨v, β', ω', Z', rfl, hr⟩
 have hv : v = .bool true := by
  have := hr.tmps 0
  exact this.2
 subst hv
 have hbelow : Below W.heap.size W W' := ⟨hr.os, hr.tape, hr.output, hr.base, fun k hk => hr.frame k hk (fun h => h rfl)⟩
 refine ⟨_, rfl, ds, [], p ++ [], [], p, [], hW', ?_, ?_, ?_, hbelow.frame _, fun h => by cases h⟩
 ·rw [hfn ds l1, hrt]
  exact trodAll_cons_mk (shut_bool hbool _) trodAll_mk0
 ·rw [hfn ds l1, hparams]
  exact args_again hlaid hbelow ts _ ds p hread (fun x hx => hlt x (List.mem_append_left _ hx)) hA
 ·rw [hfn ds l1, hvars]
  rfl
end
end Go.Vs
namespace Go.Ve
open Go.Vs
inductive Ty where
 | int (k : IntKind) | bool | str | sl (r : Ty) | pair (h t : Ty)
 | ent (u : Bool) (k v : Ty)
 | set (k : Ty)
 deriving DecidableEq, Repr, Inhabited
@[reducible] def Ty.T : Ty → Type
 | .int _ => Int
 | .bool => Bool
 | .str => List UInt8
 | .sl r => Option (List r.T)
 | .pair h t => h.T × t.T
 | .ent _ k v => k.T × v.T
 | .set k => k.T
def Ty.w : Ty → Nat
 | .pair h t => h.w + t.w
 | .ent _ k v => k.w + v.w
 | .set k => k.w
 | _ => 1
def Ty.agg : Ty → Bool
 | .pair _ _ => true
 | _ => false
def Ty.e : Ty → Nat
 | .ent u k v => match u with | true => unE (mapE k.w k.agg v.w v.agg) | false => mapE k.w k.agg v.w v.agg
 | .set k => mapE k.w k.agg 0 true
 | t => t.w
def Ty.zero : (t : Ty) → t.T
 | .int _ => (0 : Int)
 | .bool => false
 | .str => ([] : List UInt8)
 | .sl r => (none : Option (List r.T))
 | .pair h t => (h.zero, t.zero)
 | .ent _ k v => (k.zero, v.zero)
 | .set k => k.zero
def encR : (t : Ty) → t.T → List D
 | .int k, n => [.int k n]
 | .bool, b => [.bool b]
 | .str, s => [.str s]
 | .sl r, o => match o with
  | none => [.nil]
  | some xs => [.sl r.e (xs.map (encR r))]
 | .pair h t, x => encR h x.1 ++ encR t x.2
 | .ent _ k v, x => encR k x.1 ++ encR v x.2
 | .set k, x => encR k x
def lenI {α : Type} (l : List α) : Int := l.length
def byteI (b : UInt8) : Int := b.toNat
def bytesI (s : List UInt8) : List Int := s.map byteI
def ofBytesI (l : List Int) : List UInt8 := l.map fun n => UInt8.ofNat n.toNat
def andI (k : IntKind) (a b : Int) : Int := k.wrap ((BitVec.ofInt k.bits a &&& BitVec.ofInt k.bits b).toNat)
def orI (k : IntKind) (a b : Int) : Int := k.wrap ((BitVec.ofInt k.bits a ||| BitVec.ofInt k.bits b).toNat)
def xorI (k : IntKind) (a b : Int) : Int := k.wrap ((BitVec.ofInt k.bits a ^^^ BitVec.ofInt k.bits b).toNat)
def andNotI (k : IntKind) (a b : Int) : Int := k.wrap ((BitVec.ofInt k.bits a &&& ~~~(BitVec.ofInt k.bits b)).toNat)
inductive Md where
 | data | own | bor (q : Res) (j hv cv k : Nat)
 deriving DecidableEq
inductive E where
 | i (k : IntKind) (n : Int) | b (x : Bool) | tt | ff | s (x : List UInt8)
 | l (m : Md) (t : Ty) (xs : List t.T)
 | n (m : Md) (t : Ty) (o : Option (List t.T))
 | nil | nul (k : NK)
 | ea (q : Res) (j hv : Nat) (t : Ty) (n off : Nat)
 | da (t : Ty) (x : t.T) (off : Nat)
 | ptr (k : Key) (off : Nat)
 | clo (f : FuncId) (caps : List (Key × Nat))
 | dead
 | gone (b : Bool)
instance : Inhabited E := ⟨.dead⟩
inductive SVE where
 | one (c : E) | agg (cs : List E) | tup (vs : List (Bool × List E)) | undef
instance : Inhabited SVE := ⟨.undef⟩
structure RVE where
 hv : Nat := 0
 cv : Nat := 0
 v : SVE := .undef
instance : Inhabited RVE := ⟨{}⟩
def lC (m : Md) (t : Ty) (xs : List t.T) : C :=
 match m with
 | .data => .d (.sl t.e (xs.map (encR t)))
 | .own => .own t.e (xs.map (encR t))
 | .bor q j hv cv k => .bor q j hv cv t.e k (xs.map (encR t))
def cE : E → C
 | .i k n => .d (.int k n)
 | .b x => .d (.bool x)
 | .tt => .d (.bool true)
 | .ff => .d (.bool false)
 | .s x => .d (.str x)
 | .l m t xs => lC m t xs
 | .n m t o => match o with
  | none => .d .nil
  | some xs => lC m t xs
 | .nil => .d .nil
 | .nul k => .d (.nul k)
 | .ea q j hv t n off => .ea q j hv t.e n off
 | .da t x off => .da ((encR t x).drop off)
 | .ptr k off => .ptr k off
 | .clo f caps => .clo f caps
 | .dead => .dead
 | .gone b => match b with
  | true => .dead
  | false => .d .nil
def cEs (l : List E) : List C := l.map cE
def cTup (l : List (Bool × List E)) : List (Bool × List C) := l.map fun p => (p.1, cEs p.2)
def cSV : SVE → SV
 | .one c => .one (cE c)
 | .agg cs => .agg (cEs cs)
 | .tup vs => .tup (cTup vs)
 | .undef => .undef
def cRV (x : RVE) : RV := { hv := x.hv, cv := x.cv, v := cSV x.v }
def SVE.cells : SVE → List E
 | .one c => [c]
 | .agg cs => cs
 | .tup vs => vs.flatMap (·.2)
 | .undef => []
def lset {α : Type} : List α → Nat → α → List α
 | [], _, _ => []
 | _ :: r, 0, c => c :: r
 | x :: r, j + 1, c => x :: lset r j c
def setTupE : List (Bool × List E) → Nat → E → List (Bool × List E)
 | [], _, _ => []
 | (b, cs) :: r, j, c => if j < cs.length then (b, lset cs j c) :: r else (b, cs) :: setTupE r (j - cs.length) c
def SVE.setCell (v : SVE) (j : Nat) (c : E) : SVE :=
 match v with
 | .one _ => if j = 0 then .one c else v
 | .agg cs => .agg (lset cs j c)
 | .tup vs => .tup (setTupE vs j c)
 | .undef => .undef
def keqb : Key → Key → Bool
 | .inb a, .inb b => a == b
 | .loc a, .loc b => a == b
 | .esc a i, .esc b j => a == b && i == j
 | _, _ => false
def reqb : Res → Res → Bool
 | .tmp a, .tmp b => a == b
 | .box a, .box b => keqb a b
 | .arg a, .arg b => a == b
 | _, _ => false
def frz1E (v : SVE) (j : Nat) : SVE :=
 match v.cells.getD j .dead with
 | .l .own t ys => v.setCell j (.l .data t ys)
 | .n .own t o => v.setCell j (.n .data t o)
 | _ => v
def frzArgsE : List (Nat × Nat) → List SVE → List SVE
 | [], args => args
 | (i, j) :: r, args => frzArgsE r (lset args i (frz1E (args.getD i .undef) j))
structure ESt where
 m : List (Res × RVE)
 args : List SVE
 frz : List (Nat × Nat)
 dirty : List (Res × Option (List Bool))
def lkR (r : Res) : List (Res × RVE) → RVE
 | [] => {}
 | (q, x) :: l => match reqb r q with
  | true => x
  | false => lkR r l
def updR (r : Res) (x : RVE) : List (Res × RVE) → List (Res × RVE)
 | [] => [(r, x)]
 | (q, y) :: l => match reqb r q with
  | true => (r, x) :: l
  | false => (q, y) :: updR r x l
def ESt.get (s : ESt) (r : Res) : RVE :=
 match r with
 | .arg i => { v := (frzArgsE s.frz s.args).getD i .undef }
 | r => lkR r s.m
def ESt.put (s : ESt) (r : Res) (x : RVE) : ESt := { s with m := updR r x s.m, dirty := (r, none) :: s.dirty }
def overE : List E → List (Option E) → List E
 | [], _ => []
 | cs, [] => cs
 | c :: cs, o :: os => (match o with | some x => x | none => c) :: overE cs os
def ESt.wr (s : ESt) (k : Key) (os : List (Option E)) : ESt :=
 let x := lkR (.box k) s.m
 { s with m := updR (.box k) { hv := x.hv + 1, cv := x.cv, v := match x.v with | .agg cs => .agg (overE cs os) | v => v } s.m, dirty := (.box k, some (os.map Option.isSome)) :: s.dirty }
def kb (b : Bool) : E := match b with | true => .tt | false => .ff
def ESt.know (s : ESt) (r : Res) (b : Bool) : ESt :=
 match r with
 | .tmp t => let x := lkR (.tmp t) s.m
  { s with m := updR (.tmp t) { x with v := .one (kb b) } s.m, dirty := (r, none) :: s.dirty }
 | _ => s
def cSt (s : ESt) : St := fun r => cRV (s.get r)
inductive Tr (α : Type) : Type 1 where
 | leaf (a : α)
 | fail
 | br (c : Bool) (t e : Tr α)
 | call {ρ : Type} (d : ρ) (o : Option ρ) (k : ρ → Tr α)
 | sum {ρ σ : Type} (o : ρ ⊕ σ) (k : ρ → Tr α) (k' : σ → Tr α)
def callO {ρ α : Type} (o : Option ρ) (k : ρ → Option α) : Option α :=
 match o with
 | some x => k x
 | none => none
def sumO {ρ σ α : Type} (o : ρ ⊕ σ) (k : ρ → Option α) (k' : σ → Option α) : Option α :=
 match o with
 | .inl x => k x
 | .inr x => k' x
namespace Tr
def bind {α β : Type} : Tr α → (α → Tr β) → Tr β
 | .leaf a, f => f a
 | .fail, _ => .fail
 | .br c t e, f => .br c (t.bind f) (e.bind f)
 | .call d o k, f => .call d o fun x => (k x).bind f
 | .sum o k k', f => .sum o (fun x => (k x).bind f) (fun x => (k' x).bind f)
def map {α β : Type} (f : α → β) : Tr α → Tr β
 | .leaf a => .leaf (f a)
 | .fail => .fail
 | .br c t e => .br c (t.map f) (e.map f)
 | .call d o k => .call d o fun x => (k x).map f
 | .sum o k k' => .sum o (fun x => (k x).map f) (fun x => (k' x).map f)
def run {α : Type} : Tr α → Option α
 | .leaf a => some a
 | .fail => none
 | .br c t e => if c = true then t.run else e.run
 | .call _ o k => callO o fun x => (k x).run
 | .sum o k k' => sumO o (fun x => (k x).run) fun x => (k' x).run
def all {α : Type} : Tr α → (α → Prop) → Prop
 | .leaf a, Q => Q a
 | .fail, _ => False
 | .br c t e, Q => (c = true → t.all Q) ∧ (c = false → e.all Q)
 | .call _ o k, Q => ∃ x, o = some x ∧ (k x).all Q
 | .sum o k k', Q => (∀ x, o = .inl x → (k x).all Q) ∧ (∀ x, o = .inr x → (k' x).all Q)
def box {α : Type} : Tr α → (α → Prop) → Prop
 | .leaf a, Q => Q a
 | .fail, _ => True
 | .br c t e, Q => (c = true → t.box Q) ∧ (c = false → e.box Q)
 | .call _ o k, Q => ∀ x, o = some x → (k x).box Q
 | .sum o k k', Q => (∀ x, o = .inl x → (k x).box Q) ∧ (∀ x, o = .inr x → (k' x).box Q)
def each {α : Type} : Tr α → (α → Prop) → Prop
 | .leaf a, Q => Q a
 | .fail, _ => True
 | .br _ t e, Q => t.each Q ∧ e.each Q
 | .call _ _ k, Q => ∀ x, (k x).each Q
 | .sum _ k k', Q => (∀ x, (k x).each Q) ∧ (∀ x, (k' x).each Q)
end Tr
inductive PE (α : Type) : Type 1 where
 | ret (a : α)
 | fail
 | br (c : Bool) (t e : PE α)
 | call {ρ : Type} (d : ρ) (o : Option ρ) (k : ρ → PE α)
 | get (r : Res) (k : RVE → PE α)
 | put (r : Res) (x : RVE) (k : PE α)
 | frz (i j : Nat) (k : PE α)
 | know (r : Res) (b : Bool) (k : PE α)
 | wr (k : Key) (os : List (Option E)) (c : PE α)
def putOk (r : Res) (x : RVE) : Bool :=
 match r, x.v with
 | .arg _, _ => false
 | .box _, .agg _ => true
 | .box _, _ => false
 | .tmp _, _ => true
namespace PE
def bind {α β : Type} : PE α → (α → PE β) → PE β
 | .ret a, f => f a
 | .fail, _ => .fail
 | .br c t e, f => .br c (t.bind f) (e.bind f)
 | .call d o k, f => .call d o fun x => (k x).bind f
 | .get r k, f => .get r fun x => (k x).bind f
 | .put r x k, f => .put r x (k.bind f)
 | .frz i j k, f => .frz i j (k.bind f)
 | .know r b k, f => .know r b (k.bind f)
 | .wr k os c, f => .wr k os (c.bind f)
instance : Monad PE where
 pure := PE.ret
 bind := PE.bind
def both {α : Type} : PE α → ESt → Tr (α × ESt × List Res × List Res)
 | .ret a, s => .leaf (a, s, [], [])
 | .fail, _ => .fail
 | .br c t e, s => .br c (t.both s) (e.both s)
 | .call d o k, s => .call d o fun x => (k x).both s
 | .get r k, s => ((k (s.get r)).both s).map fun y => (y.1, y.2.1, r :: y.2.2.1, y.2.2.2)
 | .put r x k, s => match putOk r x with
  | false => .fail
  | true => (k.both (s.put r x)).map fun y => (y.1, y.2.1, y.2.2.1, r :: y.2.2.2)
 | .know r b k, s => k.both (s.know r b)
 | .wr k os c, s => (c.both (s.wr k os)).map fun y => (y.1, y.2.1, y.2.2.1, .box k :: y.2.2.2)
 | .frz i j k, s => (k.both { s with frz := s.frz ++ [(i, j)], dirty := (.arg i, none) :: s.dirty }).map fun y => (y.1, y.2.1, y.2.2.1, .arg i :: y.2.2.2)
end PE
def putE (r : Res) (x : RVE) : PE Unit := .put r x (.ret ())
def ask (c : Bool) : PE Unit := .br c (.ret ()) .fail
def sure (c : Bool) : PE Unit := match c with | true => .ret () | false => .fail
def cellsT : (t : Ty) → t.T → List E
 | .int k, n => [.i k n]
 | .bool, b => [.b b]
 | .str, s => [.s s]
 | .sl t, o => [.n .data t o]
 | .pair h t, x => cellsT h x.1 ++ cellsT t x.2
 | .ent _ k v, x => cellsT k x.1 ++ cellsT v x.2
 | .set k, x => cellsT k x
def takeT : (t : Ty) → List E → Option (t.T × List E)
 | .int k => fun cs => match cs with
  | .i k' n :: r => if k' = k then some (n, r) else none
  | _ => none
 | .bool => fun cs => match cs with
  | .b x :: r => some (x, r)
  | .tt :: r => some (true, r)
  | .ff :: r => some (false, r)
  | _ => none
 | .str => fun cs => match cs with
  | .s x :: r => some (x, r)
  | _ => none
 | .sl t => fun cs => match cs with
  | .n .data t' o :: r => if h : t' = t then some (h ▸ o, r) else none
  | .l .data t' xs :: r => if h : t' = t then some (some (h ▸ xs), r) else none
  | .nil :: r => some (none, r)
  | _ => none
 | .pair h t => fun cs => match takeT h cs with
  | some (x, r) => match takeT t r with
   | some (y, r') => some ((x, y), r')
   | none => none
  | none => none
 | .ent _ k v => fun cs => match takeT k cs with
  | some (x, r) => match takeT v r with
   | some (y, r') => some ((x, y), r')
   | none => none
  | none => none
 | .set k => fun cs => takeT k cs
def rowT (t : Ty) (cs : List E) : Option t.T :=
 match takeT t cs with
 | some (x, []) => some x
 | _ => none
def bcellE (r : Res) (x : RVE) (j : Nat) : E → E
 | .l .own t xs => .l (.bor r j x.hv x.cv 0) t xs
 | .n .own t o => .n (.bor r j x.hv x.cv 0) t o
 | c => c
def bcellsE (r : Res) (x : RVE) : Nat → List E → List E
 | _, [] => []
 | j, c :: cs => bcellE r x j c :: bcellsE r x (j + 1) cs
def btupE (r : Res) (x : RVE) : Nat → List (Bool × List E) → List (Bool × List E)
 | _, [] => []
 | j, (b, cs) :: vs => (b, bcellsE r x j cs) :: btupE r x (j + cs.length) vs
def RVE.copy (x : RVE) (r : Res) : SVE :=
 match x.v with
 | .one c => .one (bcellE r x 0 c)
 | .agg cs => .agg (bcellsE r x 0 cs)
 | .tup vs => .tup (btupE r x 0 vs)
 | .undef => .undef
def reflectE : Value → Option E
 | .int k n => some (.i k n)
 | .bool b => some (match b with | true => .tt | false => .ff)
 | .string s => some (.s s.data.toList)
 | .slice none 0 0 => some .nil
 | .pointer none => some (.nul .ptr)
 | .nilFunc => some (.nul .func)
 | .nilIface => some (.nul .iface)
 | .map none => some (.nul .map)
 | .chan none => some (.nul .chan)
 | _ => none
def reflectAllE : List Value → Option (List E)
 | [] => some []
 | v :: r => match reflectE v, reflectAllE r with
  | some d, some ds => some (d :: ds)
  | _, _ => none
def evE : Operand → PE SVE
 | .tmp t => .get (.tmp t) fun x => match x.v with
  | .undef => .fail
  | _ => .ret (x.copy (.tmp t))
 | .const v => match v with
  | .agg cs => match reflectAllE cs.toList with
   | some ds => .ret (.agg ds)
   | none => .fail
  | v => match reflectE v with
   | some d => .ret (.one d)
   | none => .fail
 | .func f => .ret (.one (.clo f []))
 | .global _ => .fail
def evsE : List Operand → PE (List SVE)
 | [] => .ret []
 | o :: os => do let v ← evE o; let vs ← evsE os; .ret (v :: vs)
def asOneE : SVE → PE E
 | .one c => .ret c
 | _ => .fail
def ev1E (o : Operand) : PE E := do asOneE (← evE o)
def cIntE : E → PE Int
 | .i _ n => .ret n
 | _ => .fail
def boolOf : E → Option Bool
 | .b b => some b
 | .tt => some true
 | .ff => some false
 | _ => none
def RVE.at (x : RVE) (j : Nat) : E := x.v.cells.getD j .dead
def freezeAtE (r : Res) (j : Nat) (x : RVE) : PE Unit :=
 match x.at j with
 | .l .own t ys => match r with
  | .arg i => .frz i j (.ret ())
  | r => putE r { x with v := x.v.setCell j (.l .data t ys) }
 | .n .own t o => match r with
  | .arg _ => .fail
  | r => .call [] o fun ys => putE r { x with v := x.v.setCell j (.l .data t ys) }
 | .l .data _ _ => .ret ()
 | .n .data _ o => .call [] o fun _ => .ret ()
 | _ => .fail
def takeAtE (r : Res) (j : Nat) (x : RVE) : PE Unit :=
 match x.at j with
 | .l .own _ _ => putE r { x with v := x.v.setCell j .dead }
 | .n .own _ o => .call [] o fun _ => putE r { x with v := x.v.setCell j .dead }
 | _ => .fail
def resolve : E → PE E
 | .n m t o => .br o.isSome (.ret (.l m t (o.getD []))) (.ret .nil)
 | c => .ret c
def resolveB : E → PE E
 | .n (.bor q j hv cv k) t o => .br o.isSome (.ret (.l (.bor q j hv cv k) t (o.getD []))) (.ret .nil)
 | c => .ret c
def resolveA : E → PE E
 | .n (.bor (.arg i) j hv cv k) t o => .br o.isSome (.ret (.l (.bor (.arg i) j hv cv k) t (o.getD []))) (.ret .nil)
 | c => .ret c
def freezeNE (r : Res) (j : Nat) (x : RVE) (b : Bool) : PE Unit :=
 match x.at j with
 | .n .own t o => match r with
  | .arg _ => .fail
  | r => .br (b == o.isSome) (putE r { x with v := x.v.setCell j (.n .data t o) }) .fail
 | .n .data _ o => .br (b == o.isSome) (.ret ()) .fail
 | _ => .fail
def takeNE (r : Res) (j : Nat) (x : RVE) (b : Bool) : PE Unit :=
 match x.at j with
 | .n .own _ o => .br (b == o.isSome) (putE r { x with v := x.v.setCell j (.gone o.isSome) }) .fail
 | _ => .fail
def aliveNE (j : Nat) (x : RVE) (b : Bool) : PE Unit :=
 match x.at j with
 | .n .own _ o | .n .data _ o => .br (b == o.isSome) (.ret ()) .fail
 | _ => .fail
def selfIs (self : Option (Res × Nat)) (r : Res) (j : Nat) : Bool :=
 match self with
 | some (q, i) => reqb q r && i == j
 | none => false
def stash1E (self : Option (Res × Nat)) (take : Res → Bool) : E → PE E
 | .l (.bor r j hv cv k) t xs =>
  match r.isArg with
  | true => .ret (.l (.bor r j hv cv k) t xs)
  | false => .get r fun x => do
   sure (x.hv == hv && x.cv == cv)
   match x.at j with
   | .l .own _ _ | .n .own _ _ =>
    match selfIs self r j || take r with
    | true => do takeAtE r j x; .ret (.l .own t xs)
    | false => do freezeAtE r j x; .ret (.l .data t xs)
   | .l .data _ _ => .ret (.l .data t xs)
   | .n .data _ o => .call [] o fun _ => .ret (.l .data t xs)
   | _ => .fail
 | .n (.bor r j hv cv k) t o =>
  match r.isArg with
  | true => .ret (.n (.bor r j hv cv k) t o)
  | false => .get r fun x => do
   sure (x.hv == hv && x.cv == cv)
   match x.at j with
   | .n .own _ _ =>
    match selfIs self r j || take r with
    | true => do takeNE r j x o.isSome; .ret (.n .own t o)
    | false => do freezeNE r j x o.isSome; .ret (.n .data t o)
   | .n .data _ _ => do aliveNE j x o.isSome; .ret (.n .data t o)
   | _ => .fail
 | .dead => .fail
 | .gone _ => .fail
 | c => .ret c
def stashE (self : Option (Res × Nat)) (take : Res → Bool) (c : E) : PE E := stash1E self take c
def stashesE (mk : Nat → Res × Nat) (take : Res → Bool) : Nat → List E → PE (List E)
 | _, [] => .ret []
 | i, c :: cs => do let c' ← stashE (some (mk i)) take c; let cs' ← stashesE mk take (i + 1) cs; .ret (c' :: cs')
def stashTupE (mk : Nat → Res × Nat) (take : Res → Bool) : Nat → List (Bool × List E) → PE (List (Bool × List E))
 | _, [] => .ret []
 | i, (b, cs) :: vs => do let cs' ← stashesE mk take i cs; let vs' ← stashTupE mk take (i + cs.length) vs; .ret ((b, cs') :: vs')
def stashSVE (r : Res) (take : Res → Bool) : SVE → PE SVE
 | .one c => do .ret (.one (← stashE (some (r, 0)) take c))
 | .agg cs => do .ret (.agg (← stashesE (fun i => (r, i)) take 0 cs))
 | .tup vs => do .ret (.tup (← stashTupE (fun i => (r, i)) take 0 vs))
 | .undef => .fail
def isData : E → Bool
 | .i _ _ | .b _ | .tt | .ff | .s _ | .l .data _ _ | .n .data _ _ | .nil | .nul _ => true
 | _ => false
def toD1E : E → PE E
 | .l (.bor r j hv cv _) t xs => .get r fun x => do
   sure (x.hv == hv && x.cv == cv)
   freezeAtE r j x
   .ret (.l .data t xs)
 | .n (.bor r j hv cv _) t o => .get r fun x => do
   sure (x.hv == hv && x.cv == cv)
   freezeNE r j x o.isSome
   .ret (.n .data t o)
 | c => match isData c with
  | true => .ret c
  | false => .fail
def toDE (c : E) : PE E := do toD1E (← resolveA c)
def toDsE : List E → PE (List E)
 | [] => .ret []
 | c :: cs => do let x ← toDE c; let xs ← toDsE cs; .ret (x :: xs)
def SVE.asCells : SVE → Option (List E)
 | .one c => some [c]
 | .agg cs => some cs
 | _ => none
def elems1E (t : Ty) : E → PE (List t.T)
 | .nil => .ret []
 | .l .data t' xs => if h : t' = t then do sure (!isMap t.e); .ret (h ▸ xs) else .fail
 | .n .data t' o => if h : t' = t then do sure (!isMap t.e); .ret ((h ▸ o : Option (List t.T)).getD []) else .fail
 | .l (.bor r j hv cv _) t' xs => .get r fun x =>
  match x.hv == hv && x.cv == cv && !isMap t.e with
  | true => match x.at j with
   | .l .own _ _ | .l .data _ _ => if h : t' = t then .ret (h ▸ xs) else .fail
   | .n .own _ o | .n .data _ o => .call [] o fun _ => if h : t' = t then .ret (h ▸ xs) else .fail
   | _ => .fail
  | false => .fail
 | .n (.bor r j hv cv _) t' o => .get r fun x =>
  match x.hv == hv && x.cv == cv && !isMap t.e with
  | true => do
   aliveNE j x o.isSome
   if h : t' = t then .ret ((h ▸ o : Option (List t.T)).getD []) else .fail
  | false => .fail
 | _ => .fail
def elemsE (t : Ty) (c : E) : PE (List t.T) := elems1E t c
def dintE (k : IntKind) (n : Int) : SVE := .one (.i k n)
def dboolE (b : Bool) : SVE := .one (.b b)
def binIntE (op : BinOp) (k : IntKind) (a b : Int) : PE SVE :=
 match op with
 | .add => .ret (dintE k (k.wrap (a + b)))
 | .sub => .ret (dintE k (k.wrap (a - b)))
 | .mul => .ret (dintE k (k.wrap (a * b)))
 | .quo => do ask (decide (b ≠ 0)); .ret (dintE k (k.wrap (a.tdiv b)))
 | .rem => do ask (decide (b ≠ 0)); .ret (dintE k (a.tmod b))
 | .and => .ret (dintE k (andI k a b))
 | .or => .ret (dintE k (orI k a b))
 | .xor => .ret (dintE k (xorI k a b))
 | .andNot => .ret (dintE k (andNotI k a b))
 | .eql => .ret (dboolE (a == b))
 | .neq => .ret (dboolE (a != b))
 | .lss => .ret (dboolE (decide (a < b)))
 | .leq => .ret (dboolE (decide (a ≤ b)))
 | .gtr => .ret (dboolE (decide (a > b)))
 | .geq => .ret (dboolE (decide (a ≥ b)))
 | _ => .fail
def binStrE (op : BinOp) (a b : List UInt8) : PE SVE :=
 match op with
 | .add => do ask (decide (a.length + b.length ≤ 1152921504606846976)); .ret (.one (.s (a ++ b)))
 | .eql => .ret (dboolE (decide (a = b)))
 | .neq => .ret (dboolE (!decide (a = b)))
 | .lss => .ret (dboolE (Op.bytesLess a b))
 | .leq => .ret (dboolE (Op.bytesLess a b || decide (a = b)))
 | .gtr => .ret (dboolE (!(Op.bytesLess a b || decide (a = b))))
 | .geq => .ret (dboolE (!Op.bytesLess a b))
 | _ => .fail
def ECfgBool (cfg : Cfg) (t : TypeId) : Bool :=
 match cfg.ti t with
 | some { kind := .bool, .. } => true
 | _ => false
def binBoolE (cfg : Cfg) (t : TypeId) (op : BinOp) (x y : E) : PE SVE :=
 match boolOf x, boolOf y with
 | some a, some b => match ECfgBool cfg t, op with
  | true, .eql => .ret (dboolE (a == b))
  | true, .neq => .ret (dboolE (!(a == b)))
  | _, _ => .fail
 | _, _ => .fail
def nilE : E → Option Bool
 | .l _ t _ => if isMap t.e then none else some false
 | .n _ t o => if isMap t.e then none else some (!o.isSome)
 | .nil => some true
 | _ => none
def isSlT (cfg : Cfg) (t : TypeId) : Bool :=
 match cfg.ti t with
 | some { kind := .slice _, .. } => true
 | _ => false
def binNilE (cfg : Cfg) (t : TypeId) (op : BinOp) (x : E) : PE SVE :=
 match isSlT cfg t, op, nilE x with
 | true, .eql, some b => .ret (dboolE b)
 | true, .neq, some b => .ret (dboolE (!b))
 | _, _, _ => .fail
def binE (cfg : Cfg) (t : TypeId) (op : BinOp) (x y : E) : PE SVE :=
 match x, y with
 | .i k a, .i k' b =>
  match op with
  | .shl => do ask (decide (0 ≤ b)); .ret (dintE k (k.wrap (a * 2 ^ (min b.toNat k.bits))))
  | .shr => do ask (decide (0 ≤ b)); .ret (dintE k (a.fdiv (2 ^ (min b.toNat k.bits))))
  | op => if k = k' then binIntE op k a b else .fail
 | .s a, .s b => binStrE op a b
 | x, .nil => binNilE cfg t op x
 | x, y => binBoolE cfg t op x y
def eqEs : List Sc → List E → List E → Option Bool
 | [], [], [] => some true
 | .int k :: sh, .i k1 a :: xs, .i k2 b :: ys => if k1 = k ∧ k2 = k then (match eqEs sh xs ys with | some r => some ((a == b) && r) | none => none) else none
 | .str :: sh, .s a :: xs, .s b :: ys => match eqEs sh xs ys with | some r => some (decide (a = b) && r) | none => none
 | .bool :: sh, x :: xs, y :: ys => match boolOf x, boolOf y, eqEs sh xs ys with | some a, some b, some r => some ((a == b) && r) | _, _, _ => none
 | _, _, _ => none
def eqAggE (cfg : Cfg) (t : TypeId) (op : BinOp) (xs ys : List E) : PE SVE :=
 match lk t cfg.eqs with
 | some sh => match op, eqEs sh xs ys with
  | .eql, some r => .ret (dboolE r)
  | .neq, some r => .ret (dboolE (!r))
  | _, _ => .fail
 | none => .fail
def nlt (a b : Nat) : Bool := Nat.ble (a + 1) b
def slice1E (i : TI) (cs : List E) (off : Nat) : PE SVE :=
 match nlt 0 i.size && Nat.ble (off + i.size) cs.length with
 | true => match i.kind.agg with
  | true => .ret (.agg ((cs.drop off).take i.size))
  | false => match cs[off]? with
   | some .dead => .fail
   | some (.gone _) => .fail
   | some c => .ret (.one c)
   | none => .fail
 | false => .fail
def loadE (i : TI) : E → PE SVE
 | .ptr k off => .get (.box k) fun x =>
  match x.v with
  | .agg cs => slice1E i (bcellsE (.box k) x 0 cs) off
  | _ => .fail
 | .ea r j hv _ n off => .get r fun x =>
  match x.hv == hv with
  | true => match x.at j with
   | .l .own t ys | .l .data t ys => do ask (nlt n ys.length); slice1E i (cellsT t (ys.getD n t.zero)) off
   | .n .own t o | .n .data t o => do ask (nlt n (o.getD []).length); slice1E i (cellsT t ((o.getD []).getD n t.zero)) off
   | _ => .fail
  | false => .fail
 | .da t x off => slice1E i ((cellsT t x).drop off) 0
 | _ => .fail
def storeE (take : Res → Bool) (i : TI) (a : E) (v : SVE) : PE Unit :=
 match a, v.asCells with
 | .ptr k off, some cs => do
  sure (cs.length == i.size)
  let cs' ← stashesE (fun n => (.box k, off + n)) take 0 cs
  .get (.box k) fun x =>
   match x.v with
   | .agg old => do
    sure (Nat.ble (off + i.size) old.length && Nat.ble (off + cs'.length) old.length)
    .wr k (List.replicate off none ++ cs'.map some) (.ret ())
   | _ => .fail
 | .ea r j hv _ n off, some cs => do
  sure (cs.length == i.size)
  let ds ← toDsE cs
  .get r fun x => do
   sure (x.hv == hv && !r.isArg)
   match x.at j with
   | .l .own t ys => do
    ask (nlt n ys.length)
    sure (Nat.ble (off + i.size) t.w)
    match rowT t (splice (cellsT t (ys.getD n t.zero)) off ds) with
    | some row' => putE r { x with cv := x.cv + 1, v := x.v.setCell j (.l .own t (ys.set n row')) }
    | none => .fail
   | .n .own t o => do
    ask (nlt n (o.getD []).length)
    sure (Nat.ble (off + i.size) t.w)
    match rowT t (splice (cellsT t ((o.getD []).getD n t.zero)) off ds) with
    | some row' => putE r { x with cv := x.cv + 1, v := x.v.setCell j (.l .own t ((o.getD []).set n row')) }
    | none => .fail
   | _ => .fail
 | _, _ => .fail
def fieldE (cfg : Cfg) (t : TypeId) (c : E) (f : Nat) : PE E :=
 match cfg.ti t with
 | some { kind := .struct fs, .. } => match fs[f]? with
  | some (o, ft) => match cfg.ti ft with
   | some i => do
    sure (!(i.size == 0))
    match c with
    | .ptr k off => .ret (.ptr k (off + o))
    | .ea r j hv e n off => .ret (.ea r j hv e n (off + o))
    | .da t x off => do sure (Nat.ble (off + o) t.w); .ret (.da t x (off + o))
    | _ => .fail
   | none => .fail
  | none => .fail
 | _ => .fail
def indexAddrE (cfg : Cfg) (t : TypeId) (c : E) (n : Int) : PE E :=
 match cfg.ti t with
 | some { kind := .slice et, .. } => match cfg.ti et with
  | some i => match c with
   | .l (.bor r j hv _ k) t xs => do ask (decide (0 ≤ n ∧ n < lenI xs)); sure (i.size == t.e && !isMap i.size); .ret (.ea r j hv t (k + n.toNat) 0)
   | .n (.bor r j hv _ k) t o => do ask (decide (0 ≤ n ∧ n < lenI (o.getD []))); sure (i.size == t.e && !isMap i.size); .ret (.ea r j hv t (k + n.toNat) 0)
   | .l .data t xs => do ask (decide (0 ≤ n ∧ n < lenI xs)); sure (i.size == t.e && !isMap i.size); .ret (.da t (xs.getD n.toNat t.zero) 0)
   | .n .data t o => do ask (decide (0 ≤ n ∧ n < lenI (o.getD []))); sure (i.size == t.e && !isMap i.size); .ret (.da t ((o.getD []).getD n.toNat t.zero) 0)
   | _ => .fail
  | none => .fail
 | some { kind := .array len et, .. } => match cfg.ti et with
  | some i => match c with
   | .ptr k off => do sure (decide (0 ≤ n ∧ n < len)); .ret (.ptr k (off + n.toNat * i.size))
   | _ => .fail
  | none => .fail
 | _ => .fail
def indexE (cfg : Cfg) (t : TypeId) (v : SVE) (n : Int) : PE SVE :=
 match cfg.ti t, v with
 | some { kind := .str, .. }, .one (.s s) => do
  ask (decide (0 ≤ n))
  ask (nlt n.toNat s.length)
  .ret (dintE .u8 (byteI (s.getD n.toNat 0)))
 | some { kind := .array len et, .. }, .agg cs => match cfg.ti et with
  | some i => do sure (decide (0 ≤ n ∧ n < len)); slice1E i cs (n.toNat * i.size)
  | none => .fail
 | _, _ => .fail
def lenE (isStr : Bool) (v : SVE) : PE SVE :=
 match isStr, v with
 | true, .one (.s s) => .ret (dintE .i64 (lenI s))
 | false, .one .nil => .ret (dintE .i64 0)
 | false, .one (.l .data t xs) => do sure (!isMap t.e); .ret (dintE .i64 (lenI xs))
 | false, .one (.l (.bor ..) t xs) => do sure (!isMap t.e); .ret (dintE .i64 (lenI xs))
 | false, .one (.n .data t o) => do sure (!isMap t.e); .ret (dintE .i64 (lenI (o.getD [])))
 | false, .one (.n (.bor ..) t o) => do sure (!isMap t.e); .ret (dintE .i64 (lenI (o.getD [])))
 | _, _ => .fail
def fillE (cells : List E) : List (Nat × List E) → List E
 | [] => cells
 | (off, cs) :: r => fillE (splice cells off cs) r
def partsOfE (fs : List (Nat × TypeId)) (cfg : Cfg) : List (Nat × Operand) → PE (List (Nat × List E))
 | [] => .ret []
 | (i, o) :: r => do
  let v ← evE o
  match fs[i]?, v.asCells with
  | some (off, t), some cs => match cfg.ti t with
   | some ti => do sure (cs.length == ti.size); let rest ← partsOfE fs cfg r; .ret ((off, cs) :: rest)
   | none => .fail
  | _, _ => .fail
def ofD : D → Option E
 | .int k n => some (.i k n)
 | .bool b => some (match b with | true => .tt | false => .ff)
 | .str s => some (.s s)
 | .nil => some .nil
 | .nul k => some (.nul k)
 | _ => none
def ofDs : List D → Option (List E)
 | [] => some []
 | d :: ds => match ofD d, ofDs ds with
  | some c, some cs => some (c :: cs)
  | _, _ => none
def fits (size : Nat) (ps : List (Nat × List E)) : Bool := ps.all fun p => Nat.ble (p.1 + p.2.length) size
def buildE (cfg : Cfg) (t : TypeId) (parts : List (Nat × Operand)) : PE SVE :=
 match cfg.ti t with
 | some { kind := .struct fs, size, zero := some z, .. } => do
  sure (z.length == size && fs.all fun p => (cfg.ti p.2).isSome)
  let ps ← partsOfE fs cfg parts
  sure (fits size ps)
  match ofDs z with
  | some cs => .ret (.agg (fillE cs ps))
  | none => .fail
 | some { kind := .array n et, size, zero := some z, .. } => match cfg.ti et with
  | some i => do
   sure (z.length == size)
   let ps ← partsOfE ((List.range n).map fun j => (j * i.size, et)) cfg parts
   sure (fits size ps)
   match ofDs z with
   | some cs => .ret (.agg (fillE cs ps))
   | none => .fail
  | none => .fail
 | _ => .fail
def unS : List (Option E) → List E
 | [] => []
 | o :: os => (match o with | some x => x | none => .dead) :: unS os
def newBoxes : List (List E) → List (List (Option E)) → List (List E)
 | [], os => os.map unS
 | b :: bs, o :: os => overE b o :: newBoxes bs os
 | bs, [] => bs
structure Con : Type 1 where
 A : Type
 R : Type
 d : R
 mat : List SVE → List (List E) → Option A
 sh : A → Option R
 two : Bool
 flag : R → Bool
 out : A → R → Bool → SVE × List (List (Option E))
 frz : List (Nat × Nat)
 F : AFun
 one : two = false → ∀ y, flag y = true
 ok : ∀ args boxes x y, mat args boxes = some x → sh x = some y → F (args.map cSV) (boxes.map cEs) = some { v := cSV (out x y (flag y)).1, boxes := (newBoxes boxes (out x y (flag y)).2).map cEs, frz := frz }
structure ECfg where
 N : Nat
 T : List (TypeId × TI)
 R : List (TypeId × Ty)
 con : Nat → FuncId → Option Con
 var : List Nat
 res : List Nat
 eqs : List (TypeId × List Sc) := []
 dat : List Nat := []
 outd : Bool := false
 un : List Nat := []
def ECfg.c (e : ECfg) : Cfg := { un := e.un, N := e.N, T := e.T, Γ := fun t f => match e.con t f with | some K => some K.F | none => none, var := e.var, res := e.res, eqs := e.eqs, dat := e.dat, outd := e.outd }
def zeroOk : Ty → List D → Option (List D)
 | .int k, .int k' n :: r => if k = k' ∧ n = 0 then some r else none
 | .bool, .bool b :: r => if b = false then some r else none
 | .str, .str s :: r => match s with | [] => some r | _ => none
 | .sl _, .nil :: r => some r
 | .pair h t, ds => match zeroOk h ds with | some r => zeroOk t r | none => none
 | _, _ => none
def zeroIs (t : Ty) (z : List D) : Bool := match zeroOk t z with | some [] => true | _ => false
def rowsOfE (t : Ty) (size : Nat) : List (Nat × Operand) → List t.T → PE (List t.T)
 | [], rows => .ret rows
 | (i, o) :: r, rows => do
  let v ← evE o
  match v.asCells with
  | some cs => do
   sure (cs.length == size && nlt i rows.length)
   let ds ← toDsE cs
   match rowT t ds with
   | some x => rowsOfE t size r (lset rows i x)
   | none => .fail
  | none => .fail
def buildSliceE (cfg : ECfg) (t : TypeId) (len : Nat) (parts : List (Nat × Operand)) : PE SVE :=
 match cfg.c.ti t with
 | some { kind := .slice et, .. } => match cfg.c.ti et, lk et cfg.R with
  | some i, some ty => match i.zero with
   | some z => do
    sure (z.length == i.size && nlt 0 i.size && Nat.ble (len * i.size) 16777216 && i.size == ty.e && !isMap i.size && zeroIs ty z)
    let rows ← rowsOfE ty i.size parts (List.replicate len ty.zero)
    .ret (.one (.l .own ty rows))
   | none => .fail
  | _, _ => .fail
 | _ => .fail
def makeSliceE (cfg : ECfg) (t : TypeId) (len cap : Int) : PE SVE :=
 match cfg.c.ti t with
 | some { kind := .slice et, .. } => match cfg.c.ti et, lk et cfg.R with
  | some i, some ty => match i.zero with
   | some z => do
    sure (z.length == i.size && nlt 0 i.size && Nat.ble i.bytes 1024 && i.size == ty.e && !isMap i.size && zeroIs ty z)
    ask (decide (0 ≤ len ∧ len ≤ cap ∧ cap ≤ 68719476736))
    .ret (.one (.l .own ty (List.replicate len.toNat ty.zero)))
   | none => .fail
  | _, _ => .fail
 | _ => .fail
def optL {α : Type} (ys : List α) : Option (List α) := match ys with
 | [] => none
 | y :: r => some (y :: r)
def append1E (i : TI) (t : Ty) (c : E) (ys : List t.T) (lit : Bool) : PE SVE := do
 sure (nlt 0 i.size && nlt 0 i.bytes && Nat.ble i.bytes 1024 && (match i.zero with | some z => z.length == i.size | none => false) && i.size == t.e && !isMap i.size)
 match c with
 | .nil => do
  ask (decide (ys.length ≤ 68719476736))
  .ret (.one (match lit with
   | true => (match ys with | [] => .n .own t (optL ys) | y :: r => .l .own t (y :: r))
   | false => .n .own t (optL ys)))
 | .l (.bor r j hv cv k) t' xs => .get r fun x => do
  sure (x.hv == hv && x.cv == cv && !r.isArg)
  match x.at j with
  | .l .own _ zs => do
   ask (decide (k + xs.length = zs.length))
   ask (decide (xs.length + ys.length ≤ 68719476736))
   takeAtE r j x
   if h : t' = t then .ret (.one (.l .own t ((h ▸ xs) ++ ys))) else .fail
  | .n .own _ o => .call [] o fun zs => do
   ask (decide (k + xs.length = zs.length))
   ask (decide (xs.length + ys.length ≤ 68719476736))
   takeAtE r j x
   if h : t' = t then .ret (.one (.l .own t ((h ▸ xs) ++ ys))) else .fail
  | _ => .fail
 | _ => .fail
def appL {α : Type} (o : Option (List α)) (ys : List α) : Option (List α) := match o with
 | none => optL ys
 | some xs => some (xs ++ ys)
def appendNE (i : TI) (t : Ty) (r : Res) (j hv cv k : Nat) (t' : Ty) (o : Option (List t'.T)) (ys : List t.T) (lit : Bool) : PE SVE := do
 sure (nlt 0 i.size && nlt 0 i.bytes && Nat.ble i.bytes 1024 && (match i.zero with | some z => z.length == i.size | none => false) && i.size == t.e && !isMap i.size)
 .get r fun x => do
  sure (x.hv == hv && x.cv == cv && !r.isArg)
  match x.at j with
  | .n .own _ o' => do
   ask (decide (k + (o.getD []).length = (o'.getD []).length))
   ask (decide ((o.getD []).length + ys.length ≤ 68719476736))
   takeNE r j x o.isSome
   if h : t' = t then .ret (.one (match lit, ys with
    | true, y :: q => .l .own t (((h ▸ o : Option (List t.T)).getD []) ++ y :: q)
    | _, _ => .n .own t (appL (h ▸ o) ys))) else .fail
  | _ => .fail
def appendE (i : TI) (t : Ty) (c : E) (ys : List t.T) (lit : Bool) : PE SVE :=
 match c with
 | .n (.bor r j hv cv k) t' o => appendNE i t r j hv cv k t' o ys lit
 | c => do append1E i t (← resolve c) ys lit
def isLit (var : List Nat) : E → Bool
 | .l .own _ _ => true
 | .l (.bor (.tmp t) _ _ _ _) _ _ => !(var.contains t)
 | _ => false
def addedE (cfg : Cfg) (i : TI) (t : Ty) (tid : TypeId) (c : E) : PE (List t.T) :=
 match cfg.ti tid with
 | some { kind := .str, .. } => match c with
  | .s s => if h : Ty.int .u8 = t then do sure (i.size == 1); .ret (h ▸ (bytesI s : List (Ty.int .u8).T)) else .fail
  | _ => .fail
 | some { kind := .slice _, .. } => do sure (i.size == t.e); elemsE t c
 | _ => .fail
def capE (c : E) : PE SVE :=
 match c with
 | .nil => .ret (dintE .i64 0)
 | .n _ _ o => do ask (!o.isSome); .ret (dintE .i64 0)
 | _ => .fail
def appendMakeE (i : TI) (t : Ty) (c : E) (n : Int) : PE SVE :=
 match i.zero with
 | some z => do
  sure (z.length == i.size && nlt 0 i.size && nlt 0 i.bytes && Nat.ble i.bytes 1024 && i.size == t.e && !isMap i.size && zeroIs t z)
  match c with
  | .nil => do
   ask (decide (0 ≤ n ∧ n ≤ 68719476736))
   .ret (.one (.n .own t (optL (List.replicate n.toNat t.zero))))
  | .n _ _ o => do
   ask (!o.isSome && decide (0 ≤ n ∧ n ≤ 68719476736))
   .ret (.one (.n .own t (optL (List.replicate n.toNat t.zero))))
  | _ => .fail
 | none => .fail
def subL {α : Type} (l h : Int) (xs : List α) : List α := (xs.take h.toNat).drop l.toNat
def subStrE (v : SVE) (lo hi : Option Int) : PE SVE :=
 match v with
 | .one (.s s) =>
  let h := hi.getD (lenI s)
  let l := lo.getD 0
  do
  ask (decide (0 ≤ l ∧ l ≤ h ∧ h ≤ lenI s))
  .ret (.one (.s (subL l h s)))
 | _ => .fail
def subSlE (size : Nat) (v : SVE) (lo hi : Option Int) : PE SVE :=
 match v with
 | .one .nil => do
  ask (decide (lo.getD 0 = 0 ∧ hi.getD 0 = 0))
  .ret (.one .nil)
 | .one (.l .data t xs) => do
  ask (decide (0 ≤ lo.getD 0 ∧ lo.getD 0 ≤ hi.getD (lenI xs) ∧ hi.getD (lenI xs) ≤ lenI xs))
  sure (t.e == size && !isMap size)
  .ret (.one (.l .data t (subL (lo.getD 0) (hi.getD (lenI xs)) xs)))
 | .one (.n .data t o) => do
  ask (decide (0 ≤ lo.getD 0 ∧ lo.getD 0 ≤ hi.getD (lenI (o.getD [])) ∧ hi.getD (lenI (o.getD [])) ≤ lenI (o.getD [])))
  sure (t.e == size && !isMap size)
  .ret (.one (.n .data t (o.map (subL (lo.getD 0) (hi.getD (lenI (o.getD [])))))))
 | .one (.l (.bor r j hv cv k) t xs) => do
  ask (decide (0 ≤ lo.getD 0 ∧ lo.getD 0 ≤ hi.getD (lenI xs) ∧ hi.getD (lenI xs) ≤ lenI xs))
  sure (t.e == size && !isMap size)
  .ret (.one (.l (.bor r j hv cv (k + (lo.getD 0).toNat)) t (subL (lo.getD 0) (hi.getD (lenI xs)) xs)))
 | .one (.n (.bor r j hv cv k) t o) => do
  ask (decide (0 ≤ lo.getD 0 ∧ lo.getD 0 ≤ hi.getD (lenI (o.getD [])) ∧ hi.getD (lenI (o.getD [])) ≤ lenI (o.getD [])))
  sure (t.e == size && !isMap size)
  .ret (.one (.n (.bor r j hv cv (k + (lo.getD 0).toNat)) t (o.map (subL (lo.getD 0) (hi.getD (lenI (o.getD [])))))))
 | _ => .fail
def isBytes (cfg : Cfg) (et : TypeId) : Bool :=
 match cfg.ti et with
 | some { kind := .int .u8, size := 1, .. } => true
 | _ => false
def convertE (cfg : Cfg) (src dst : TypeId) (v : SVE) : PE SVE :=
 match cfg.ti src, cfg.ti dst with
 | some _, some { kind := .int k, .. } => match v with
  | .one (.i _ n) => .ret (dintE k (k.wrap n))
  | _ => .fail
 | some i, some { kind := .str, .. } => match v with
  | .one (.s s) => .ret (.one (.s s))
  | .one c => match i.kind with
   | .slice et => match isBytes cfg et with
    | true => do
     let xs ← elemsE (.int .u8) c
     .ret (.one (.s (ofBytesI xs)))
    | false => .fail
   | _ => .fail
  | _ => .fail
 | some _, some { kind := .slice et, .. } => match v with
  | .one (.s s) => match isBytes cfg et with
   | true => .ret (.one (.l .own (.int .u8) (bytesI s)))
   | false => .fail
  | _ => .fail
 | _, _ => .fail
def scOf : Ty → Option (List Sc)
 | .int k => some [.int k]
 | .bool => some [.bool]
 | .str => some [.str]
 | .pair h t => match scOf h, scOf t with
  | some a, some b => some (a ++ b)
  | _, _ => none
 | _ => none
def eqT : (k : Ty) → k.T → k.T → Bool
 | .int _, a, b => (a : Int) == b
 | .bool, a, b => (a : Bool) == b
 | .str, a, b => decide ((a : List UInt8) = b)
 | .pair h t, a, b => eqT h a.1 b.1 && eqT t a.2 b.2
 | _, _, _ => false
def mfind {V : Type} (k : Ty) (x : k.T) : List (k.T × V) → Option V
 | [] => none
 | r :: l => match eqT k x r.1 with
  | true => some r.2
  | false => mfind k x l
def mput {V : Type} (k : Ty) (x : k.T) (y : V) : List (k.T × V) → List (k.T × V)
 | [] => [(x, y)]
 | r :: l => match eqT k x r.1 with
  | true => (x, y) :: l
  | false => r :: mput k x y l
def ltT : (k : Ty) → k.T → k.T → Bool
 | .int _, a, b => decide ((a : Int) < b)
 | .bool, a, b => !(a : Bool) && b
 | .str, a, b => ltB (a : List UInt8) b
 | .pair h t, a, b => ltT h a.1 b.1 || (eqT h a.1 b.1 && ltT t a.2 b.2)
 | _, _, _ => false
def mins {V : Type} (k : Ty) (x : k.T) (y : V) : List (k.T × V) → List (k.T × V)
 | [] => [(x, y)]
 | r :: l => match ltT k x r.1 with
  | true => (x, y) :: r :: l
  | false => r :: mins k x y l
def mputS {V : Type} (k : Ty) (x : k.T) (y : V) (l : List (k.T × V)) : List (k.T × V) := match (mfind k x l).isSome with
 | true => mput k x y l
 | false => mins k x y l
def mplace {V : Type} (k : Ty) (x : k.T) : List (k.T × V) → Nat
 | [] => 0
 | r :: l => match eqT k x r.1 with
  | true => 0
  | false => mplace k x l + 1
def madd {V : Type} (k : Ty) (x : k.T) (z : V) : List (k.T × V) → List (k.T × V)
 | [] => [(x, z)]
 | r :: l => match eqT k x r.1 with
  | true => r :: l
  | false => r :: madd k x z l
def mset {K V : Type} (y : V) : Nat → List (K × V) → List (K × V)
 | _, [] => []
 | 0, r :: l => (r.1, y) :: l
 | n + 1, r :: l => r :: mset y n l
def sfind (k : Ty) (x : k.T) : List k.T → Bool
 | [] => false
 | r :: l => match eqT k x r with
  | true => true
  | false => sfind k x l
def sput (k : Ty) (x : k.T) : List k.T → List k.T
 | [] => [x]
 | r :: l => match eqT k x r with
  | true => x :: l
  | false => r :: sput k x l
def read1E (t : Ty) (r : Res) (j hv : Nat) : PE (List t.T) :=
 .get r fun x => (sure (x.hv == hv)).bind fun _ => match x.at j with
  | .l .own t2 ys => if h : t2 = t then .ret (h ▸ ys) else .fail
  | .l .data t2 ys => if h : t2 = t then .ret (h ▸ ys) else .fail
  | .n .own t2 o => if h : t2 = t then .call [] o fun ys => .ret (h ▸ ys) else .fail
  | .n .data t2 o => if h : t2 = t then .call [] o fun ys => .ret (h ▸ ys) else .fail
  | _ => .fail
def mapRowsE (t : Ty) : E → PE (List t.T)
 | .nul .map => .ret []
 | .l .data t' xs => if h : t' = t then .ret (h ▸ xs) else .fail
 | .n .data t' o => if h : t' = t then .call [] o fun xs => .ret (h ▸ xs) else .fail
 | .l (.bor r j hv _ _) t' _ => if t' = t then read1E t r j hv else .fail
 | .n (.bor r j hv _ _) t' o0 => if t' = t then .call [] o0 fun _ => read1E t r j hv else .fail
 | _ => .fail
def SVE.isAgg : SVE → Bool
 | .agg _ => true
 | _ => false
def valE (v : Ty) (y : v.T) : PE SVE :=
 match v.agg with
 | true => .ret (.agg (cellsT v y))
 | false => match cellsT v y with
  | [c] => .ret (.one c)
  | _ => .fail
def mapOk (sh : List Sc) (ki ei : TI) (k v : Ty) (vw : Nat) (va : Bool) : Bool :=
 (match scOf k with | some sh' => decide (sh' = sh) | none => false) && k.w == ki.size && k.agg == ki.kind.agg && vw == ei.size && va == ei.kind.agg
def keyE (k : Ty) (kv : SVE) : Option k.T :=
 match kv.isAgg == k.agg, kv.asCells with
 | true, some cs => rowT k cs
 | _, _ => none
def lookupE (cfg : ECfg) (t : TypeId) (c : E) (kv : SVE) (ok : Bool) : PE SVE :=
 match mapT cfg.c t with
 | some (kt, ki, ei) => match keySc cfg.c kt, ei.zero, lk t cfg.R with
  | some sh, some z, some (.ent u k v) => match keyE k kv with
   | some x => do
    sure (mapOk sh ki ei k v v.w v.agg && zeroIs v z && (v.agg || v.w == 1))
    let xs ← mapRowsE (.ent u k v) c
    match ok with
    | true => .ret (.tup [(v.agg, cellsT v ((mfind k x xs).getD v.zero)), (false, [.b (mfind k x xs).isSome])])
    | false => valE v ((mfind k x xs).getD v.zero)
   | none => .fail
  | some sh, some [], some (.set k) => match keyE k kv with
   | some x => do
    sure (mapOk sh ki ei k k 0 true)
    let xs ← mapRowsE (.set k) c
    match ok with
    | true => .ret (.tup [(true, []), (false, [.b (sfind k x xs)])])
    | false => .ret (.agg [])
   | none => .fail
  | _, _, _ => .fail
 | none => .fail
def put1E {α : Type} (t : Ty) (r : Res) (j : Nat) (x : RVE) (cond : Option (List t.T → Bool)) (F : List t.T → List t.T) (out : List t.T → α) (ys : List t.T) : PE α :=
 match cond with
 | none => (putE r { x with cv := x.cv + 1, v := x.v.setCell j (.l .own t (F ys)) }).bind fun _ => .ret (out ys)
 | some c => (ask (c ys)).bind fun _ => (putE r { x with cv := x.cv + 1, v := x.v.setCell j (.l .own t (F ys)) }).bind fun _ => .ret (out ys)
def change1E {α : Type} (t : Ty) (r : Res) (j hv : Nat) (cond : Option (List t.T → Bool)) (F : List t.T → List t.T) (out : List t.T → α) : PE α :=
 .get r fun x => (sure (x.hv == hv && !r.isArg)).bind fun _ => match x.at j with
  | .l .own t2 ys => if h : t2 = t then put1E t r j x cond F out (h ▸ ys) else .fail
  | .n .own t2 o => if h : t2 = t then .call [] o fun ys => put1E t r j x cond F out (h ▸ ys) else .fail
  | _ => .fail
def changeE {α : Type} (t : Ty) (c : E) (cond : Option (List t.T → Bool)) (F : List t.T → List t.T) (out : List t.T → α) : PE α :=
 match c with
 | .l (.bor r j hv _ _) t' _ => if t' = t then change1E t r j hv cond F out else .fail
 | .n (.bor r j hv _ _) t' o0 => if t' = t then .call [] o0 fun _ => change1E t r j hv cond F out else .fail
 | _ => .fail
def mapUpdateE (cfg : ECfg) (t : TypeId) (c : E) (kv vv : SVE) : PE Unit :=
 match mapT cfg.c t with
 | some (kt, ki, ei) => match keySc cfg.c kt, lk t cfg.R with
  | some sh, some (.ent u k v) => match keyE k kv, vv.asCells with
   | some x, some vc => do
    sure (mapOk sh ki ei k v v.w v.agg && vv.isAgg == v.agg && vc.length == v.w)
    let ds ← toDsE vc
    match rowT v ds with
    | some y => match u with
     | true => changeE (.ent true k v) c none (fun xs => mputS k x y xs) fun _ => ()
     | false => changeE (.ent false k v) c none (fun xs => mput k x y xs) fun _ => ()
    | none => .fail
   | _, _ => .fail
  | some sh, some (.set k) => match keyE k kv, vv.asCells with
   | some x, some [] => do
    sure (mapOk sh ki ei k k 0 true && vv.isAgg)
    changeE (.set k) c none (fun xs => sput k x xs) fun _ => ()
   | _, _ => .fail
  | _, _ => .fail
 | none => .fail
def mapEntryE (cfg : ECfg) (t : TypeId) (c : E) (kv : SVE) : PE SVE :=
 match mapT cfg.c t with
 | some (kt, ki, ei) => match keySc cfg.c kt, ei.zero, lk t cfg.R with
  | some sh, some z, some (.ent false k v) => match keyE k kv with
   | some x => do
    sure (mapOk sh ki ei k v v.w v.agg && zeroIs v z && (v.agg || v.w == 1))
    changeE (.ent false k v) c none (fun xs => madd k x v.zero xs) fun xs => .tup [(v.agg, cellsT v ((mfind k x xs).getD v.zero)), (false, [.i .i64 (mplace k x xs)])]
   | none => .fail
  | _, _, _ => .fail
 | none => .fail
def entryStoreE (cfg : ECfg) (t : TypeId) (c st : E) (vv : SVE) : PE Unit :=
 match mapT cfg.c t, lk t cfg.R, st, vv.asCells with
 | some (_, ki, ei), some (.ent false k v), .i _ n, some vc => do
  sure (k.w == ki.size && k.agg == ki.kind.agg && v.w == ei.size && v.agg == ei.kind.agg && vv.isAgg == v.agg && vc.length == v.w)
  let ds ← toDsE vc
  match rowT v ds with
  | some y => changeE (.ent false k v) c (some fun xs => decide (0 ≤ n ∧ n < lenI xs)) (fun xs => mset y n.toNat xs) fun _ => ()
  | none => .fail
 | _, _, _, _ => .fail
def makeMapE (cfg : ECfg) (t : TypeId) (dst : Nat) : PE SVE :=
 match mapT cfg.c t, lk t cfg.R with
 | some (_, ki, ei), some (.ent u k v) => do
  sure (k.w == ki.size && k.agg == ki.kind.agg && v.w == ei.size && v.agg == ei.kind.agg && u == cfg.un.contains dst)
  .ret (.one (.l .own (.ent u k v) []))
 | some (_, ki, ei), some (.set k) => do
  sure (k.w == ki.size && k.agg == ki.kind.agg && 0 == ei.size && true == ei.kind.agg && !cfg.un.contains dst)
  .ret (.one (.l .own (.set k) []))
 | _, _ => .fail
def lenMapE (cfg : ECfg) (t : TypeId) (c : E) : PE SVE :=
 match mapT cfg.c t, lk t cfg.R with
 | some (_, ki, ei), some (.ent u k v) => do
  sure (k.w == ki.size && k.agg == ki.kind.agg && v.w == ei.size && v.agg == ei.kind.agg)
  let xs ← mapRowsE (.ent u k v) c
  .ret (dintE .i64 (lenI xs))
 | some (_, ki, ei), some (.set k) => do
  sure (k.w == ki.size && k.agg == ki.kind.agg && 0 == ei.size && true == ei.kind.agg)
  let xs ← mapRowsE (.set k) c
  .ret (dintE .i64 (lenI xs))
 | _, _ => .fail
def keysOfE : List E → List Key
 | [] => []
 | .ptr k _ :: cs => k :: keysOfE cs
 | .clo _ caps :: cs => caps.map (·.1) ++ keysOfE cs
 | _ :: cs => keysOfE cs
def prep1E (cfg : Cfg) : E → PE E
 | .l (.bor (.tmp u) j hv cv k) t xs => match cfg.keep u with
  | true => .ret (.l (.bor (.tmp u) j hv cv k) t xs)
  | false => toDE (.l (.bor (.tmp u) j hv cv k) t xs)
 | .n (.bor (.tmp u) j hv cv k) t o => match cfg.keep u with
  | true => .ret (.n (.bor (.tmp u) j hv cv k) t o)
  | false => toDE (.n (.bor (.tmp u) j hv cv k) t o)
 | c => .ret c
def prepE (cfg : Cfg) (c : E) : PE E := prep1E cfg c
def prepCsE (cfg : Cfg) : List E → PE (List E)
 | [] => .ret []
 | c :: cs => do let c' ← prepE cfg c; let r ← prepCsE cfg cs; .ret (c' :: r)
def prepSVE (cfg : Cfg) : SVE → PE SVE
 | .one c => do .ret (.one (← prepE cfg c))
 | .agg cs => do .ret (.agg (← prepCsE cfg cs))
 | _ => .fail
def prepSVsE (cfg : Cfg) : List SVE → PE (List SVE)
 | [] => .ret []
 | v :: vs => do let v' ← prepSVE cfg v; let r ← prepSVsE cfg vs; .ret (v' :: r)
def canonE (ks : List Key) : E → PE E
 | .l (.bor r j hv cv _) t xs => .get r fun x => do
  sure (x.hv == hv && x.cv == cv)
  match x.at j with
  | .l .own _ _ => do
   sure (ks.all fun k => !reqb r (.box k))
   .ret (.l .own t xs)
  | .n .own _ o => .call [] o fun _ => do
   sure (ks.all fun k => !reqb r (.box k))
   .ret (.l .own t xs)
  | .l .data _ _ => .ret (.l .data t xs)
  | .n .data _ o => .call [] o fun _ => .ret (.l .data t xs)
  | _ => .fail
 | .n (.bor r j hv cv _) t o => .get r fun x => do
  sure (x.hv == hv && x.cv == cv)
  match x.at j with
  | .n .own _ _ => do
   aliveNE j x o.isSome
   sure (ks.all fun k => !reqb r (.box k))
   .ret (.n .own t o)
  | .n .data _ _ => do
   aliveNE j x o.isSome
   .ret (.n .data t o)
  | _ => .fail
 | .ptr k off => .ret (.ptr (.inb (idx k ks)) off)
 | .clo f caps => .ret (.clo f (caps.map fun p => (.inb (idx p.1 ks), p.2)))
 | c => match isData c with
  | true => .ret c
  | false => .fail
def canonsE (ks : List Key) : List E → PE (List E)
 | [] => .ret []
 | c :: cs => do let c' ← canonE ks c; let r ← canonsE ks cs; .ret (c' :: r)
def canonSVE (ks : List Key) : SVE → PE SVE
 | .one c => do .ret (.one (← canonE ks c))
 | .agg cs => do .ret (.agg (← canonsE ks cs))
 | _ => .fail
def canonSVsE (ks : List Key) : List SVE → PE (List SVE)
 | [] => .ret []
 | v :: vs => do let v' ← canonSVE ks v; let r ← canonSVsE ks vs; .ret (v' :: r)
def plainE : E → Bool
 | .i _ _ | .b _ | .tt | .ff | .s _ | .l .data _ _ | .n .data _ _ | .l .own _ _ | .n .own _ _ | .nil | .nul _ => true
 | _ => false
def tokE (ks : List Key) : E → Bool
 | .ptr k _ => ks.any (keqb k)
 | c => plainE c
def tcE (ks : List Key) : E → E
 | .ptr k off => .ptr (.inb (idx k ks)) off
 | c => c
def plainO : Option E → Bool
 | some c => plainE c
 | none => true
def getBoxesE (kk : List Key) : List Key → PE (List (List E))
 | [] => .ret []
 | k :: ks => .get (.box k) fun x => match x.v with
  | .agg cs => do sure (cs.all (tokE kk)); let r ← getBoxesE kk ks; .ret (cs.map (tcE kk) :: r)
  | _ => .fail
def boxKeysE : List Key → PE (List Key)
 | [] => .ret []
 | k :: ks => .get (.box k) fun x => match x.v with
  | .agg cs => do let r ← boxKeysE ks; .ret (keysOfE cs ++ r)
  | _ => .fail
def keepPtr : List E → List (Option E) → Bool
 | [.ptr _ _], [] => true
 | [.ptr _ _], none :: _ => true
 | _, _ => false
def putBoxesE (kk : List Key) : List Key → List (List (Option E)) → PE Unit
 | [], _ => .ret ()
 | k :: ks, o :: os => .get (.box k) fun x => match x.v with
  | .agg cs => do
   sure (cs.all (tokE kk) && o.all plainO)
   match keepPtr cs o with
   | true => putBoxesE kk ks os
   | false => .wr k o (putBoxesE kk ks os)
  | _ => .fail
 | _, _ => .fail
def escapeE (t : Nat) : Nat → List (List E) → PE Unit
 | _, [] => .ret ()
 | i, b :: bs => .get (.box (.esc t i)) fun x => match x.v with
  | .undef => do sure (b.all plainE); putE (.box (.esc t i)) { hv := x.hv + 1, cv := x.cv, v := .agg b }; escapeE t (i + 1) bs
  | _ => .fail
def frzOkE (args : List SVE) (l : List (Nat × Nat)) : Bool :=
 l.all fun p => isData ((args.getD p.1 .undef).cells.getD p.2 .dead)
def backE (ks : List Key) (t : Nat) : E → PE E
 | .ptr (.inb i) off => .ret (.ptr (backKey ks t (.inb i)) off)
 | .clo f caps => do sure caps.isEmpty; .ret (.clo f [])
 | c => match plainE c with
  | true => .ret c
  | false => .fail
def backsE (ks : List Key) (t : Nat) : List E → PE (List E)
 | [] => .ret []
 | c :: cs => do let c' ← backE ks t c; let r ← backsE ks t cs; .ret (c' :: r)
def backTupE (ks : List Key) (t : Nat) : List (Bool × List E) → PE (List (Bool × List E))
 | [] => .ret []
 | (b, cs) :: vs => do let cs' ← backsE ks t cs; let r ← backTupE ks t vs; .ret ((b, cs') :: r)
def backSVE (ks : List Key) (t : Nat) : SVE → PE SVE
 | .one c => do .ret (.one (← backE ks t c))
 | .agg cs => do .ret (.agg (← backsE ks t cs))
 | .tup vs => do .ret (.tup (← backTupE ks t vs))
 | .undef => .fail
def afterE (K : Con) (ks : List Key) (cargs : List SVE) (t : Nat) (x : K.A) (y : K.R) (b : Bool) : PE SVE := do
 sure (Nat.ble ks.length (K.out x y b).2.length && frzOkE cargs K.frz)
 putBoxesE ks ks ((K.out x y b).2.take ks.length)
 escapeE t 0 (((K.out x y b).2.drop ks.length).map unS)
 backSVE ks t (K.out x y b).1
def callE (cfg : ECfg) (f : FuncId) (args0 : List SVE) (t : Nat) : PE SVE :=
 match cfg.con t f with
 | none => .fail
 | some K => do
  let args ← prepSVsE cfg.c args0
  let more ← boxKeysE (dedup (keysOfE (args.flatMap SVE.cells)))
  let ks := dedup (keysOfE (args.flatMap SVE.cells) ++ more)
  let cargs ← canonSVsE ks args
  let bs ← getBoxesE ks ks
  match K.mat cargs bs with
  | none => .fail
  | some x => .call K.d (K.sh x) fun y => match K.two with
   | false => afterE K ks cargs t x y true
   | true => .br (K.flag y) (afterE K ks cargs t x y true) (afterE K ks cargs t x y false)
def calleeE (o : Operand) : PE (FuncId × List SVE) :=
 match o with
 | .func f => .ret (f, [])
 | o => do
  match ← ev1E o with
  | .clo f caps => .ret (f, caps.map fun p => .one (.ptr p.1 p.2))
  | _ => .fail
def takeStoreE (cfg : Cfg) (c : E) (r : Res) : Bool :=
 match r with
 | .tmp u => !cfg.var.contains u || (match c with | .ptr (.loc t) _ => cfg.res.contains t | _ => false)
 | .box (.loc _) => (match c with | .ptr (.loc t) _ => cfg.res.contains t | _ => false)
 | _ => false
def move1E (self : Res × Nat) (u : Operand) : E → PE E
 | .l (.bor r j hv cv k) t xs => match takeMove u r with
  | true => stashE (some self) (takeMove u) (.l (.bor r j hv cv k) t xs)
  | false => .ret (.l (.bor r j hv cv k) t xs)
 | .n (.bor r j hv cv k) t o => match takeMove u r with
  | true => stashE (some self) (takeMove u) (.n (.bor r j hv cv k) t o)
  | false => .ret (.n (.bor r j hv cv k) t o)
 | c => .ret c
def moveCellsE (r : Res) (u : Operand) : Nat → List E → PE (List E)
 | _, [] => .ret []
 | i, c :: cs => do let c' ← move1E (r, i) u c; let cs' ← moveCellsE r u (i + 1) cs; .ret (c' :: cs')
def moveTupE (r : Res) (u : Operand) : Nat → List (Bool × List E) → PE (List (Bool × List E))
 | _, [] => .ret []
 | i, (b, cs) :: vs => do let cs' ← moveCellsE r u i cs; let vs' ← moveTupE r u (i + cs.length) vs; .ret ((b, cs') :: vs')
def moveSVE (r : Res) (u : Operand) : SVE → PE SVE
 | .one c => do .ret (.one (← move1E (r, 0) u c))
 | .agg cs => do .ret (.agg (← moveCellsE r u 0 cs))
 | .tup vs => do .ret (.tup (← moveTupE r u 0 vs))
 | .undef => .fail
def evOptE : Option Operand → PE (Option Int)
 | none => .ret none
 | some o => do .ret (some (← cIntE (← ev1E o)))
def minI (a b : Int) : Int := if b < a then b else a
def maxI (a b : Int) : Int := if b > a then b else a
def minmaxE (isMin : Bool) : List SVE → PE SVE
 | [.one (.i k a), .one (.i _ b)] => .ret (dintE k (match isMin with | true => minI a b | false => maxI a b))
 | _ => .fail
def isPtr : SVE → Option (Key × Nat)
 | .one (.ptr k o) => some (k, o)
 | _ => none
def isPtrs : List SVE → Option (List (Key × Nat))
 | [] => some []
 | v :: r => match isPtr v, isPtrs r with
  | some p, some l => some (p :: l)
  | _, _ => none
def know (o : Operand) (b : Bool) : PE Unit :=
 match o with
 | .tmp t => .know (.tmp t) b (.ret ())
 | _ => .ret ()
def avalE (cfg : ECfg) (op : Op) (dst : Nat) : PE SVE :=
 match op with
 | .move x => do
  let v ← evE x
  match Vs.isVar cfg.c x with
  | true => .ret v
  | false => moveSVE (.tmp dst) x v
 | .assign x => do
  let v ← evE x
  stashSVE (.tmp dst) (takeAssign cfg.c dst) v
 | .pick c a b => do
  match ← ev1E c with
  | .tt => evE a
  | .ff => evE b
  | .b x => .br x (do know c true; evE a) (do know c false; evE b)
  | _ => .fail
 | .alloc t => match cfg.c.ti t with
  | some { size, zero := some z, .. } => do
   sure (z.length == size)
   .get (.box (.loc dst)) fun x => match x.v with
    | .undef => match ofDs z with
     | some cs => do putE (.box (.loc dst)) { hv := x.hv + 1, cv := x.cv, v := .agg cs }; .ret (.one (.ptr (.loc dst) 0))
     | none => .fail
    | _ => .fail
  | _ => .fail
 | .box _ x => do
  let v ← evE x
  match v.asCells with
  | some cs => do
   let cs' ← stashesE (fun n => (.box (.loc dst), n)) (takeStoreE cfg.c (.ptr (.loc dst) 0)) 0 cs
   .get (.box (.loc dst)) fun x => match x.v with
    | .undef => do putE (.box (.loc dst)) { hv := x.hv + 1, cv := x.cv, v := .agg cs' }; .ret (.one (.ptr (.loc dst) 0))
    | _ => .fail
  | none => .fail
 | .build t ps => buildE cfg.c t ps.toList
 | .buildSlice t len ps => buildSliceE cfg t len ps.toList
 | .load t a => match cfg.c.ti t with
  | some i => do loadE i (← ev1E a)
  | none => .fail
 | .nilCheck x => do
  match ← ev1E x with
  | .ptr k o => .ret (.one (.ptr k o))
  | .ea r j hv e i o => .ret (.one (.ea r j hv e i o))
  | .da t x o => .ret (.one (.da t x o))
  | _ => .fail
 | .binOp op t x y _ => do
  match ← evE x, ← evE y with
  | .one a, .one b => binE cfg.c t op a b
  | .agg xs, .agg ys => eqAggE cfg.c t op xs ys
  | _, _ => .fail
 | .unOp op _ x => do
  match op, ← ev1E x with
  | .neg, .i k n => .ret (dintE k (k.wrap (0 - n)))
  | .xor, .i k n => binIntE .xor k (if k.signed then -1 else k.max) n
  | .not, .b b => .ret (dboolE (!b))
  | .not, .tt => .ret (.one .ff)
  | .not, .ff => .ret (.one .tt)
  | _, _ => .fail
 | .convert s t x => do convertE cfg.c s t (← evE x)
 | .makeFunc (.func f) first captured => do
  sure (first.toList.isEmpty)
  let vs ← evsE captured.toList
  match isPtrs vs with
  | some l => .ret (.one (.clo f l))
  | none => .fail
 | .makeSlice t l c => do
  let n ← cIntE (← ev1E l)
  let m ← cIntE (← ev1E c)
  makeSliceE cfg t n m
 | .slice t x lo hi none => match cfg.c.ti t with
  | some { kind := .str, .. } => do
   let v ← evE x
   let l ← evOptE lo
   let h ← evOptE hi
   subStrE v l h
  | some { kind := .slice et, .. } => match cfg.c.ti et with
   | some i => do
    let v ← evE x
    let l ← evOptE lo
    let h ← evOptE hi
    subSlE i.size v l h
   | none => .fail
  | _ => .fail
 | .fieldAddr t x f => do .ret (.one (← fieldE cfg.c t (← ev1E x) f))
 | .field t x f => do
  match cfg.c.ti t, ← evE x with
  | some { kind := .struct fs, .. }, .agg cs => match fs[f]? with
   | some (o, ft) => match cfg.c.ti ft with
    | some i => slice1E i cs o
    | none => .fail
   | none => .fail
  | _, _ => .fail
 | .indexAddr t x ix => do
  let c ← ev1E x
  let n ← cIntE (← ev1E ix)
  .ret (.one (← indexAddrE cfg.c t c n))
 | .index t x ix => do
  let v ← evE x
  let n ← cIntE (← ev1E ix)
  indexE cfg.c t v n
 | .extract x n => do
  match ← evE x with
  | .tup vs => match vs[n]? with
   | some (true, cs) => moveSVE (.tmp dst) x (.agg cs)
   | some (false, [c]) => moveSVE (.tmp dst) x (.one c)
   | _ => .fail
  | _ => .fail
 | .call { callee := .builtin .len, args, argTypes } => match args.toList, argTypes.toList with
  | [x], [t] => match cfg.c.ti t with
   | some { kind := .str, .. } => do lenE true (← evE x)
   | some { kind := .slice _, .. } => do lenE false (← evE x)
   | some { kind := .map _ _, .. } => do lenMapE cfg t (← ev1E x)
   | _ => .fail
  | _, _ => .fail
 | .makeMap t none => makeMapE cfg t dst
 | .lookup t x ix ok => do
  let c ← ev1E x
  let v ← evE ix
  lookupE cfg t c v ok
 | .mapEntry t m k => do
  let c ← ev1E m
  let v ← evE k
  mapEntryE cfg t c v
 | .call { callee := .builtin .append, args, argTypes } => match args.toList, argTypes.toList with
  | [x, y], [t, t2] => match cfg.c.ti t with
   | some { kind := .slice et, .. } => match cfg.c.ti et, lk et cfg.R with
    | some i, some ty => match cfg.c.ti t2 with
     | some { kind := .int .i64, .. } => do
      let c ← ev1E x
      let n ← cIntE (← ev1E y)
      appendMakeE i ty c n
     | _ => do
      let c ← ev1E x
      let c2 ← ev1E y
      let ys ← addedE cfg.c i ty t2 c2
      appendE i ty c ys (isLit cfg.c.var c2)
    | _, _ => .fail
   | _ => .fail
  | _, _ => .fail
 | .call { callee := .builtin .cap, args, argTypes } => match args.toList, argTypes.toList with
  | [x], [t] => match cfg.c.ti t with
   | some { kind := .slice _, .. } => do capE (← ev1E x)
   | _ => .fail
  | _, _ => .fail
 | .call { callee := .builtin .min, args, .. } => do minmaxE true (← evsE args.toList)
 | .call { callee := .builtin .max, args, .. } => do minmaxE false (← evsE args.toList)
 | .call { callee := .value o, args, .. } => do
  let (f, caps) ← calleeE o
  let vs ← evsE args.toList
  callE cfg f (vs ++ caps) dst
 | _ => .fail
def putTmpE (cfg : ECfg) (t : Nat) (v : SVE) : PE Unit :=
 .get (.tmp t) fun x => do
  sure (nlt t cfg.N)
  putE (.tmp t) { hv := x.hv + 1, cv := x.cv, v }
def step0E (cfg : ECfg) (o : Oper) : PE Unit :=
 match o.op, o.dst with
 | .store t a x, none => match cfg.c.ti t with
  | some i => do
   let c ← ev1E a
   let v ← evE x
   storeE (takeStoreE cfg.c c) i c v
  | none => .fail
 | .mapUpdate t m k x, none | .insert t m k x, none => do
  let c ← ev1E m
  let vk ← evE k
  let vx ← evE x
  mapUpdateE cfg t c vk vx
 | .entryStore t m st x, none => do
  let c ← ev1E m
  let s ← ev1E st
  let vx ← evE x
  entryStoreE cfg t c s vx
 | op, some d => do putTmpE cfg d (← avalE cfg op d)
 | _, none => .fail
def stepE (cfg : ECfg) (ops : Array Oper) (o : Oper) : PE Unit :=
 match o.guard with
 | none => step0E cfg o
 | some (j, want) => do
  let undo : PE Unit := match o.dst with
   | some d => putTmpE cfg d (.tup [])
   | none => .ret ()
  match (ops[j]?).bind (·.dst) with
  | some t => .get (.tmp t) fun x => match x.v with
   | .one .tt => match want with
    | true => step0E cfg o
    | false => undo
   | .one .ff => match want with
    | true => undo
    | false => step0E cfg o
   | .one (.b b) => match want with
    | true => .br b (.know (.tmp t) true (step0E cfg o)) (.know (.tmp t) false undo)
    | false => .br b (.know (.tmp t) true undo) (.know (.tmp t) false (step0E cfg o))
   | .tup [] => undo
   | _ => .fail
  | none => .fail
def runE (cfg : ECfg) (ops : Array Oper) : List Oper → ESt → Tr (ESt × List (List Res × List Res))
 | [], s => .leaf (s, [])
 | o :: r, s => ((stepE cfg ops o).both s).bind fun x => (runE cfg ops r x.2.1).bind fun y => .leaf (y.1, (x.2.2.1, x.2.2.2) :: y.2)
end Go.Ve
namespace Go.Ve
open Go.Vs
namespace Tr
theorem box_bind {α β : Type} (t : Tr α) (f : α → Tr β) (Q : β → Prop) : (t.bind f).box Q ↔ t.box fun a => (f a).box Q := by
 induction t with
 | leaf a => rfl
 | fail => exact Iff.rfl
 | br c t e iht ihe => simp only [bind, box, iht, ihe]
 | call d o k ih => simp only [bind, box, ih]
 | sum o k k' ih ih' => simp only [bind, box, ih, ih']
theorem box_map {α β : Type} (t : Tr α) (f : α → β) (Q : β → Prop) : (t.map f).box Q ↔ t.box fun a => Q (f a) := by
 induction t with
 | leaf a => rfl
 | fail => exact Iff.rfl
 | br c t e iht ihe => simp only [map, box, iht, ihe]
 | call d o k ih => simp only [map, box, ih]
 | sum o k k' ih ih' => simp only [map, box, ih, ih']
theorem box_mono {α : Type} {t : Tr α} {Q Q' : α → Prop} (h : ∀ a, Q a → Q' a) (ht : t.box Q) : t.box Q' := by
 induction t with
 | leaf a => exact h _ ht
 | fail => trivial
 | br c t e iht ihe => exact ⟨fun hc => iht (ht.1 hc), fun hc => ihe (ht.2 hc)⟩
 | call d o k ih => exact fun x hx => ih x (ht x hx)
 | sum o k k' ih ih' => exact ⟨fun x hx => ih x (ht.1 x hx), fun x hx => ih' x (ht.2 x hx)⟩
theorem each_bind {α β : Type} (t : Tr α) (f : α → Tr β) (Q : β → Prop) : (t.bind f).each Q ↔ t.each fun a => (f a).each Q := by
 induction t with
 | leaf a => rfl
 | fail => exact Iff.rfl
 | br c t e iht ihe => simp only [bind, each, iht, ihe]
 | call d o k ih => simp only [bind, each, ih]
 | sum o k k' ih ih' => simp only [bind, each, ih, ih']
theorem each_map {α β : Type} (t : Tr α) (f : α → β) (Q : β → Prop) : (t.map f).each Q ↔ t.each fun a => Q (f a) := by
 induction t with
 | leaf a => rfl
 | fail => exact Iff.rfl
 | br c t e iht ihe => simp only [map, each, iht, ihe]
 | call d o k ih => simp only [map, each, ih]
 | sum o k k' ih ih' => simp only [map, each, ih, ih']
theorem each_mono {α : Type} {t : Tr α} {Q Q' : α → Prop} (h : ∀ a, Q a → Q' a) (ht : t.each Q) : t.each Q' := by
 induction t with
 | leaf a => exact h _ ht
 | fail => trivial
 | br c t e iht ihe => exact ⟨iht ht.1, ihe ht.2⟩
 | call d o k ih => exact fun x => ih x (ht x)
 | sum o k k' ih ih' => exact ⟨fun x => ih x (ht.1 x), fun x => ih' x (ht.2 x)⟩
theorem each_true {α : Type} (t : Tr α) : t.each fun _ => True := by
 induction t with
 | leaf a => trivial
 | fail => trivial
 | br c t e iht ihe => exact ⟨iht, ihe⟩
 | call d o k ih => exact ih
 | sum o k k' ih ih' => exact ⟨ih, ih'⟩
theorem each_box {α : Type} {t : Tr α} {Q : α → Prop} (ht : t.each Q) : t.box Q := by
 induction t with
 | leaf a => exact ht
 | fail => trivial
 | br c t e iht ihe => exact ⟨fun _ => iht ht.1, fun _ => ihe ht.2⟩
 | call d o k ih => exact fun x _ => ih x (ht x)
 | sum o k k' ih ih' => exact ⟨fun x _ => ih x (ht.1 x), fun x _ => ih' x (ht.2 x)⟩
theorem all_and {α : Type} {t : Tr α} {Q Q' : α → Prop} (h : t.all Q) (h' : t.box Q') : t.all fun a => Q a ∧ Q' a := by
 induction t with
 | leaf a => exact ⟨h, h'⟩
 | fail => exact h
 | br c t e iht ihe => exact ⟨fun hc => iht (h.1 hc) (h'.1 hc), fun hc => ihe (h.2 hc) (h'.2 hc)⟩
 | call d o k ih => obtain ⟨x, hx, g⟩ := h; exact ⟨x, hx, ih x g (h' x hx)⟩
 | sum o k k' ih ih' => exact ⟨fun x hx => ih x (h.1 x hx) (h'.1 x hx), fun x hx => ih' x (h.2 x hx) (h'.2 x hx)⟩
theorem box_and {α : Type} {t : Tr α} {Q Q' : α → Prop} (h1 : t.box Q) (h2 : t.box Q') : t.box fun a => Q a ∧ Q' a := by
 induction t with
 | leaf a => exact ⟨h1, h2⟩
 | fail => trivial
 | br c t e iht ihe => exact ⟨fun hc => iht (h1.1 hc) (h2.1 hc), fun hc => ihe (h1.2 hc) (h2.2 hc)⟩
 | call d o k ih => exact fun x hx => ih x (h1 x hx) (h2 x hx)
 | sum o k k' ih ih' => exact ⟨fun x hx => ih x (h1.1 x hx) (h2.1 x hx), fun x hx => ih' x (h1.2 x hx) (h2.2 x hx)⟩
theorem all_iff {α : Type} (t : Tr α) (Q : α → Prop) : t.all Q ↔ ∃ a, t.run = some a ∧ Q a := by
 induction t with
 | leaf a => simp [all, run]
 | fail => simp [all, run]
 | br c t e iht ihe => cases c <;> simp [all, run, iht, ihe]
 | call d o k ih => cases o <;> simp [all, run, callO, ih]
 | sum o k k' ih ih' => cases o <;> simp [all, run, sumO, ih, ih']
theorem run_box {α : Type} {t : Tr α} {Q : α → Prop} {a : α} (h : t.run = some a) (h' : t.box Q) : Q a := by
 have := all_and ((all_iff t fun b => b = a).2 ⟨a, h, rfl⟩) h'
 obtain ⟨b, _, rfl, g⟩ := (all_iff t _).1 this
 exact g
theorem run_bind {α β : Type} (t : Tr α) (f : α → Tr β) : (t.bind f).run = t.run.bind fun a => (f a).run := by
 induction t with
 | leaf a => rfl
 | fail => rfl
 | br c t e iht ihe => cases c <;> simp [bind, run, iht, ihe]
 | call d o k ih => cases o <;> simp [bind, run, callO, ih]
 | sum o k k' ih ih' => cases o <;> simp [bind, run, sumO, ih, ih']
theorem run_map {α β : Type} (t : Tr α) (f : α → β) : (t.map f).run = t.run.map f := by
 induction t with
 | leaf a => rfl
 | fail => rfl
 | br c t e iht ihe => cases c <;> simp [map, run, iht, ihe]
 | call d o k ih => cases o <;> simp [map, run, callO, ih]
 | sum o k k' ih ih' => cases o <;> simp [map, run, sumO, ih, ih']
end Tr
theorem lset_eq {α : Type} : ∀ (l : List α) (j : Nat) (c : α), lset l j c = l.set j c
 | [], j, c => by simp [lset]
 | x :: r, 0, c => rfl
 | x :: r, j + 1, c => by simp [lset, lset_eq r j c]
theorem cEs_set (cs : List E) (j : Nat) (c : E) : cEs (lset cs j c) = (cEs cs).set j (cE c) := by
 rw [lset_eq]; simp [cEs, List.map_set]
@[simp] theorem cEs_length (cs : List E) : (cEs cs).length = cs.length := by simp [cEs]
@[simp] theorem cEs_append (l m : List E) : cEs (l ++ m) = cEs l ++ cEs m := by simp [cEs]
theorem cTup_cells : ∀ (vs : List (Bool × List E)), (cTup vs).flatMap (·.2) = cEs (vs.flatMap (·.2))
 | [] => rfl
 | (b, cs) :: r => by
  have := cTup_cells r
  simp only [cTup, List.map_cons, List.flatMap_cons, cEs_append] at this ⊢
  rw [this]
theorem cells_eq (v : SVE) : (cSV v).cells = cEs v.cells := by
 cases v with
 | tup vs => exact cTup_cells vs
 | _ => rfl
theorem getD_map {α β : Type} (f : α → β) (l : List α) (j : Nat) (d : α) : (l.map f).getD j (f d) = f (l.getD j d) := by
 simp only [List.getD_eq_getElem?_getD, List.getElem?_map]
 cases l[j]? <;> rfl
theorem at_eq (x : RVE) (j : Nat) : (cRV x).at j = cE (x.at j) := by
 show (cSV x.v).cells.getD j .dead = _
 rw [cells_eq]
 exact getD_map cE _ j .dead
theorem setTupE_eq : ∀ (vs : List (Bool × List E)) (j : Nat) (c : E), cTup (setTupE vs j c) = setTup (cTup vs) j (cE c)
 | [], j, c => rfl
 | (b, cs) :: r, j, c => by
  have ih := setTupE_eq r (j - cs.length) c
  simp only [setTupE, cTup, List.map_cons, setTup, cEs_length] at ih ⊢
  split <;> simp [cEs_set, ih]
theorem setCell_eq (v : SVE) (j : Nat) (c : E) : cSV (v.setCell j c) = (cSV v).setCell j (cE c) := by
 cases v with
 | one x =>
  show cSV (if j = 0 then .one c else .one x) = if j = 0 then .one (cE c) else .one (cE x)
  split <;> rfl
 | agg cs => simp only [SVE.setCell, cSV, SV.setCell, cEs_set]
 | tup vs => simp only [SVE.setCell, cSV, SV.setCell, setTupE_eq]
 | undef => rfl
theorem setCell_same (v : SV) (j : Nat) (h : j < v.cells.length) : v.setCell j (v.cells.getD j .dead) = v := by
 cases v with
 | one x =>
  simp only [SV.cells, List.length_singleton] at h
  have : j = 0 := by omega
  subst this; rfl
 | agg cs =>
  simp only [SV.cells] at h ⊢
  simp only [SV.setCell, SV.agg.injEq]
  rw [List.getD_eq_getElem?_getD, List.getElem?_eq_getElem h]; simp
 | tup vs =>
  simp only [SV.cells] at h ⊢
  simp only [SV.setCell, SV.tup.injEq]
  induction vs generalizing j with
  | nil => rfl
  | cons p r ih =>
   obtain ⟨b, cs⟩ := p
   simp only [List.flatMap_cons, List.length_append] at h
   simp only [setTup, List.flatMap_cons]
   split
   ·rename_i hj
    rw [List.getD_eq_getElem?_getD, List.getElem?_append_left hj, List.getElem?_eq_getElem hj]
    simp
   ·rename_i hj
    have := ih (j - cs.length) (by omega)
    rw [List.getD_eq_getElem?_getD, List.getElem?_append_right (by omega), ← List.getD_eq_getElem?_getD, this]
 | undef => simp [SV.cells] at h
theorem cE_n_none (m : Md) (t : Ty) : cE (.n m t none) = .d .nil := rfl
theorem cE_n_some (m : Md) (t : Ty) (xs : List t.T) : cE (.n m t (some xs)) = cE (.l m t xs) := rfl
theorem cE_n (m : Md) (t : Ty) (o : Option (List t.T)) (h : o.isSome = true) : cE (.n m t o) = cE (.l m t (o.getD [])) := by
 cases o with
 | none => cases h
 | some xs => rfl
theorem bcell_eq (r : Res) (x : RVE) (j : Nat) (c : E) : cE (bcellE r x j c) = bcell r (cRV x) j (cE c) := by
 cases c with
 | l m t xs => cases m <;> rfl
 | n m t o => cases m <;> cases o <;> rfl
 | gone b => cases b <;> rfl
 | _ => rfl
theorem bcells_eq (r : Res) (x : RVE) : ∀ (j : Nat) (cs : List E), cEs (bcellsE r x j cs) = bcells r (cRV x) j (cEs cs)
 | j, [] => rfl
 | j, c :: cs => by
  have := bcells_eq r x (j + 1) cs
  simp only [cEs, List.map_cons] at this ⊢
  simp only [bcellsE, List.map_cons, bcells, bcell_eq, this]
theorem btup_eq (r : Res) (x : RVE) : ∀ (j : Nat) (vs : List (Bool × List E)), cTup (btupE r x j vs) = btup r (cRV x) j (cTup vs)
 | j, [] => rfl
 | j, (b, cs) :: vs => by
  have := btup_eq r x (j + cs.length) vs
  simp only [cTup, List.map_cons] at this ⊢
  simp only [btupE, List.map_cons, btup, bcells_eq, this, cEs_length]
theorem copy_eq (x : RVE) (r : Res) : cSV (x.copy r) = (cRV x).copy r := by
 obtain ⟨hv, cv, v⟩ := x
 cases v with
 | one c => exact congrArg SV.one (bcell_eq r _ 0 c)
 | agg cs => exact congrArg SV.agg (bcells_eq r _ 0 cs)
 | tup vs => exact congrArg SV.tup (btup_eq r _ 0 vs)
 | undef => rfl
theorem reflect_eq {v : Value} {e : E} (h : reflectE v = some e) : ∃ d, reflect v = some d ∧ cE e = .d d := by
 unfold reflectE at h
 split at h <;> first | (cases h; exact ⟨_, rfl, rfl⟩) | (rename_i b; cases h; cases b <;> exact ⟨_, rfl, rfl⟩) | (cases h; done)
theorem reflectAll_eq : ∀ {vs : List Value} {es : List E}, reflectAllE vs = some es → ∃ ds, reflectAll vs = some ds ∧ cEs es = ds.map .d
 | [], es, h => by cases h; exact ⟨[], rfl, rfl⟩
 | v :: r, es, h => by
  unfold reflectAllE at h
  split at h
  ·rename_i d ds h1 h2
   cases h
   obtain ⟨x, e1, e2⟩ := reflect_eq h1
   obtain ⟨xs, e3, e4⟩ := reflectAll_eq h2
   exact ⟨x :: xs, by simp [reflectAll, e1, e3], by simp only [cEs, List.map_cons] at e4 ⊢; rw [e2, e4]⟩
  ·cases h
theorem cells_enc : ∀ (t : Ty) (x : t.T), cEs (cellsT t x) = (encR t x).map .d
 | .int k, n => rfl
 | .bool, b => rfl
 | .str, s => rfl
 | .sl t, o => by cases o <;> rfl
 | .pair h t, x => by
  have h1 := cells_enc h x.1
  have h2 := cells_enc t x.2
  simp only [cellsT, cEs_append, h1, h2, encR, List.map_append]
 | .set h, x => by simpa [cellsT, encR] using cells_enc h x
 | .ent _ h t, x => by
  have h1 := cells_enc h x.1
  have h2 := cells_enc t x.2
  simp only [cellsT, cEs_append, h1, h2, encR, List.map_append]
theorem encR_length : ∀ (t : Ty) (x : t.T), (encR t x).length = t.w
 | .int k, n => rfl
 | .bool, b => rfl
 | .str, s => rfl
 | .sl t, o => by cases o <;> rfl
 | .pair h t, x => by simp [encR, Ty.w, encR_length h x.1, encR_length t x.2]
 | .set h, x => by simpa [encR, Ty.w] using encR_length h x
 | .ent _ h t, x => by simp [encR, Ty.w, encR_length h x.1, encR_length t x.2]
theorem cellsT_length (t : Ty) (x : t.T) : (cellsT t x).length = t.w := by
 have := congrArg List.length (cells_enc t x)
 simpa [encR_length] using this
theorem isMap_ent (u : Bool) (k v : Ty) : isMap (Ty.ent u k v).e = true := by
 cases u
 ·exact Nat.ble_eq_true_of_le (Nat.le_add_right 4294967296 _)
 ·exact Nat.ble_eq_true_of_le (Nat.le_trans (Nat.le_add_right 4294967296 _) (Nat.le_add_right _ _))
theorem w_of_e {t : Ty} (h : isMap t.e = false) : t.e = t.w := by
 cases t with
 | ent u k v => rw [isMap_ent] at h; cases h
 | set k =>
  simp only [Ty.e, isMap, mapE] at h
  exact absurd (Nat.ble_eq_true_of_le (Nat.le_add_right 4294967296 _)) (by rw [h]; simp)
 | _ => rfl
theorem isMap_set (k : Ty) : isMap (Ty.set k).e = true := Nat.ble_eq_true_of_le (Nat.le_add_right 4294967296 _)
theorem takeT_eq : ∀ (t : Ty) (cs r : List E) (x : t.T), takeT t cs = some (x, r) → ∃ a, cs = a ++ r ∧ cEs a = (encR t x).map .d
 | .int k, cs, r, x, h => by
  unfold takeT at h
  split at h
  ·split at h
   ·rename_i hk; cases h; subst hk; exact ⟨[.i _ _], rfl, rfl⟩
   ·cases h
  ·cases h
 | .bool, cs, r, x, h => by
  unfold takeT at h
  split at h <;> cases h
  ·exact ⟨[.b _], rfl, rfl⟩
  ·exact ⟨[.tt], rfl, rfl⟩
  ·exact ⟨[.ff], rfl, rfl⟩
 | .str, cs, r, x, h => by
  unfold takeT at h
  split at h <;> cases h
  exact ⟨[.s _], rfl, rfl⟩
 | .sl t, cs, r, x, h => by
  unfold takeT at h
  split at h
  ·split at h
   ·rename_i o _ ht; subst ht; cases h; exact ⟨[.n .data _ o], rfl, by cases o <;> rfl⟩
   ·cases h
  ·split at h
   ·rename_i ht; subst ht; cases h; exact ⟨[.l .data _ _], rfl, rfl⟩
   ·cases h
  ·cases h; exact ⟨[.nil], rfl, rfl⟩
  ·cases h
 | .pair h t, cs, r, x, hh => by
  unfold takeT at hh
  split at hh
  ·rename_i y r1 h1
   split at hh
   ·rename_i z r2 h2
    cases hh
    obtain ⟨a, rfl, e2⟩ := takeT_eq h _ _ _ h1
    obtain ⟨b, rfl, f2⟩ := takeT_eq t _ _ _ h2
    exact ⟨a ++ b, by simp, by simp [e2, f2, encR]⟩
   ·cases hh
  ·cases hh
 | .set k, cs, r, x, h => takeT_eq k cs r x h
 | .ent _ h t, cs, r, x, hh => by
  unfold takeT at hh
  split at hh
  ·rename_i y r1 h1
   split at hh
   ·rename_i z r2 h2
    cases hh
    obtain ⟨a, rfl, e2⟩ := takeT_eq h _ _ _ h1
    obtain ⟨b, rfl, f2⟩ := takeT_eq t _ _ _ h2
    exact ⟨a ++ b, by simp, by simp [e2, f2, encR]⟩
   ·cases hh
  ·cases hh
theorem rowT_eq {t : Ty} {cs : List E} {x : t.T} (h : rowT t cs = some x) : cEs cs = (encR t x).map .d := by
 unfold rowT at h
 split at h
 ·rename_i y hy
  cases h
  obtain ⟨a, rfl, e⟩ := takeT_eq t _ _ _ hy
  simpa using e
 ·cases h
theorem keqb_iff (a b : Key) : keqb a b = true ↔ a = b := by
 cases a <;> cases b <;> simp [keqb]
theorem reqb_iff (a b : Res) : reqb a b = true ↔ a = b := by
 cases a <;> cases b <;> simp [reqb, keqb_iff]
theorem lkR_updR (r : Res) (x : RVE) (q : Res) : ∀ (l : List (Res × RVE)), lkR q (updR r x l) = if q = r then x else lkR q l
 | [] => by
  simp only [updR, lkR]
  by_cases h : q = r
  ·rw [(reqb_iff q r).2 h, if_pos h]
  ·rw [if_neg h]
   cases hb : reqb q r with
   | true => exact absurd ((reqb_iff q r).1 hb) h
   | false => rfl
 | (p, y) :: l => by
  have ih := lkR_updR r x q l
  simp only [updR]
  cases hrp : reqb r p with
  | true =>
   have := (reqb_iff r p).1 hrp
   subst this
   simp only [lkR]
   by_cases h : q = r
   ·rw [(reqb_iff q r).2 h, if_pos h]
   ·rw [if_neg h]
    cases hb : reqb q r with
    | true => exact absurd ((reqb_iff q r).1 hb) h
    | false => rfl
  | false =>
   simp only [lkR]
   rw [ih]
   cases hqp : reqb q p with
   | true =>
    have := (reqb_iff q p).1 hqp
    subst this
    have hne : q ≠ r := by rintro rfl; rw [(reqb_iff q q).2 rfl] at hrp; cases hrp
    simp [hne]
   | false => rfl
theorem get_put (s : ESt) {r : Res} (x : RVE) (hr : r.isArg = false) (q : Res) : (s.put r x).get q = if q = r then x else s.get q := by
 cases q with
 | arg i =>
  have : Res.arg i ≠ r := by rintro rfl; cases hr
  rw [if_neg this]; rfl
 | tmp t => exact lkR_updR r x _ s.m
 | box k => exact lkR_updR r x _ s.m
theorem cSt_put (s : ESt) {r : Res} (x : RVE) (hr : r.isArg = false) : cSt (s.put r x) = (cSt s).set r (cRV x) := by
 funext q
 simp only [cSt, get_put s x hr q, St.set]
 split <;> rfl
theorem cSt_know (s : ESt) {t : Nat} {c b : Bool} (h : (s.get (.tmp t)).v = .one (.b c)) (hc : c = b) : cSt (s.know (.tmp t) b) = cSt s := by
 funext q
 have hg : (s.know (.tmp t) b).get q = if q = .tmp t then { (s.get (.tmp t)) with v := .one (kb b) } else s.get q := by
  cases q with
  | arg i => rw [if_neg (by simp)]; rfl
  | tmp u => exact lkR_updR (.tmp t) _ (.tmp u) s.m
  | box k => exact lkR_updR (.tmp t) _ (.box k) s.m
 simp only [cSt, hg]
 split
 ·rename_i hq
  subst hq hc
  have : s.get (.tmp t) = { (s.get (.tmp t)) with v := .one (.b c) } := by rw [← h]
  rw [this]
  cases c <;> rfl
 ·rfl
theorem get_wr (s : ESt) (k : Key) (os : List (Option E)) (q : Res) {cs : List E} (h : (s.get (.box k)).v = .agg cs) : (s.wr k os).get q = if q = .box k then { hv := (s.get (.box k)).hv + 1, cv := (s.get (.box k)).cv, v := .agg (overE cs os) } else s.get q := by
 have h' : (lkR (.box k) s.m).v = .agg cs := h
 cases q with
 | arg i => rw [if_neg (by simp)]; rfl
 | tmp u => 
  have := lkR_updR (.box k) { hv := (lkR (.box k) s.m).hv + 1, cv := (lkR (.box k) s.m).cv, v := match (lkR (.box k) s.m).v with | .agg cs => .agg (overE cs os) | v => v } (.tmp u) s.m
  rw [if_neg (by simp)] at this ⊢
  exact this
 | box u =>
  show lkR (.box u) (updR (.box k) { hv := (lkR (.box k) s.m).hv + 1, cv := (lkR (.box k) s.m).cv, v := match (lkR (.box k) s.m).v with | .agg cs => .agg (overE cs os) | v => v } s.m) = _
  rw [lkR_updR]
  split
  ·rw [h']; rfl
  ·rfl
theorem cSt_wr (s : ESt) (k : Key) (os : List (Option E)) {cs : List E} (h : (s.get (.box k)).v = .agg cs) : cSt (s.wr k os) = (cSt s).set (.box k) { hv := (s.get (.box k)).hv + 1, cv := (s.get (.box k)).cv, v := .agg (cEs (overE cs os)) } := by
 funext q
 simp only [cSt, get_wr s k os q h, St.set]
 split <;> rfl
theorem overE_splice : ∀ (old : List E) (off : Nat) (cs : List E), off + cs.length ≤ old.length → overE old (List.replicate off none ++ cs.map some) = splice old off cs
 | old, 0, cs, h => by
  have : ∀ (old cs : List E), cs.length ≤ old.length → overE old (cs.map some) = cs ++ old.drop cs.length := by
   intro old cs
   induction cs generalizing old with
   | nil => intro _; cases old <;> simp [overE]
   | cons c cs ih =>
    intro h
    cases old with
    | nil => simp at h
    | cons o old => simp only [List.map_cons, overE, List.cons_append, List.length_cons, List.drop_succ_cons, ih old (by simpa using h)]
  simpa [splice] using this old cs (by simpa using h)
 | [], off + 1, cs, h => by simp at h
 | o :: old, off + 1, cs, h => by
  have ih := overE_splice old off cs (by simp only [List.length_cons] at h; omega)
  simp only [List.replicate_succ, List.cons_append, overE, ih]
  simp only [splice, List.take_succ_cons, List.cons_append]
  rw [show off + 1 + cs.length = (off + cs.length) + 1 by omega, List.drop_succ_cons]
def Sim {α β : Type} (s : ESt) (p : PE α) (f : α → β) (q : Prog β) : Prop :=
 (p.both s).box fun x => ∃ fr fw, q.both (cSt s) = some (f x.1, cSt x.2.1, fr, fw) ∧ (∀ r ∈ fr, r ∈ x.2.2.1) ∧ ∀ r ∈ fw, r ∈ x.2.2.2
theorem bothE_bind {α β : Type} (p : PE α) (k : α → PE β) : ∀ s, (p.bind k).both s = (p.both s).bind fun x => ((k x.1).both x.2.1).map fun y => (y.1, y.2.1, x.2.2.1 ++ y.2.2.1, x.2.2.2 ++ y.2.2.2) := by
 have hmap : ∀ {γ δ ε : Type} (t : Tr γ) (f : γ → δ) (g : δ → Tr ε), (t.map f).bind g = t.bind fun a => g (f a) := by
  intro γ δ ε t f g
  induction t with
  | leaf a => rfl
  | fail => rfl
  | br c t e iht ihe => simp only [Tr.map, Tr.bind, iht, ihe]
  | call d o k ih => simp only [Tr.map, Tr.bind, ih]
  | sum o k k' ih ih' => simp only [Tr.map, Tr.bind, ih, ih']
 have hmb : ∀ {γ δ ε : Type} (t : Tr γ) (f : γ → Tr δ) (g : δ → ε), (t.bind f).map g = t.bind fun a => (f a).map g := by
  intro γ δ ε t f g
  induction t with
  | leaf a => rfl
  | fail => rfl
  | br c t e iht ihe => simp only [Tr.map, Tr.bind, iht, ihe]
  | call d o k ih => simp only [Tr.map, Tr.bind, ih]
  | sum o k k' ih ih' => simp only [Tr.map, Tr.bind, ih, ih']
 have hmm : ∀ {γ δ ε : Type} (t : Tr γ) (f : γ → δ) (g : δ → ε), (t.map f).map g = t.map fun a => g (f a) := by
  intro γ δ ε t f g
  induction t with
  | leaf a => rfl
  | fail => rfl
  | br c t e iht ihe => simp only [Tr.map, iht, ihe]
  | call d o k ih => simp only [Tr.map, ih]
  | sum o k k' ih ih' => simp only [Tr.map, ih, ih']
 have hid : ∀ {γ : Type} (t : Tr γ), t.map (fun a => a) = t := by
  intro γ t
  induction t with
  | leaf a => rfl
  | fail => rfl
  | br c t e iht ihe => simp only [Tr.map, iht, ihe]
  | call d o k ih => simp only [Tr.map, ih]
  | sum o k k' ih ih' => simp only [Tr.map, ih, ih']
 induction p with
 | ret a => intro s; simp only [PE.bind, PE.both, Tr.bind, List.nil_append]; exact (hid _).symm
 | fail => intro s; rfl
 | br c p q ihp ihq => intro s; simp only [PE.bind, PE.both, Tr.bind, ihp, ihq]
 | call d o k ih => intro s; simp only [PE.bind, PE.both, Tr.bind, ih]
 | get r k ih => intro s; simp only [PE.bind, PE.both, ih, hmap, hmb, hmm, List.cons_append]
 | put r x k ih => intro s; simp only [PE.bind, PE.both]; cases putOk r x <;> simp only [ih, hmap, hmb, hmm, List.cons_append, Tr.bind]
 | frz i j k ih => intro s; simp only [PE.bind, PE.both, ih, hmap, hmb, hmm, List.cons_append]
 | know r b k ih => intro s; simp only [PE.bind, PE.both, ih]
 | wr q os k ih => intro s; simp only [PE.bind, PE.both, ih, hmap, hmb, hmm, List.cons_append]
theorem bothP_bind {α β : Type} (p : Prog α) (k : α → Prog β) : ∀ s, (p.bind k).both s = match p.both s with
  | some (a, s', f, g) => match (k a).both s' with
   | some (b, s'', f', g') => some (b, s'', f ++ f', g ++ g')
   | none => none
  | none => none := by
 induction p with
 | ret a => intro s; simp only [Prog.bind, Prog.both, List.nil_append]; cases (k a).both s <;> rfl
 | fail => intro s; rfl
 | get r k' ih =>
  intro s
  simp only [Prog.bind, Prog.both, ih]
  cases (k' (s r)).both s with
  | none => rfl
  | some x => simp only; cases (k x.1).both x.2.1 <;> rfl
 | put r x p ih =>
  intro s
  simp only [Prog.bind, Prog.both, ih]
  cases p.both (s.set r x) with
  | none => rfl
  | some x => simp only; cases (k x.1).both x.2.1 <;> rfl
section
variable {α β γ δ : Type} {s : ESt}
theorem Sim.ret {a : α} {f : α → β} {b : β} (h : b = f a) : Sim s (.ret a) f (.ret b) := by subst h; exact ⟨[], [], rfl, by simp, by simp⟩
theorem Sim.fail {f : α → β} {q : Prog β} : Sim s .fail f q := trivial
theorem Sim.bind2 {p : PE α} {f : α → β} {q : Prog β} {k : α → PE γ} {g : γ → δ} {k' : β → Prog δ} {R : α → ESt → Prop} (h : Sim s p f q) (hR : (p.both s).box fun x => R x.1 x.2.1) (hk : ∀ a s', R a s' → Sim s' (k a) g (k' (f a))) : Sim s (p.bind k) g (q.bind k') := by
 unfold Sim at h hk ⊢
 rw [bothE_bind, Tr.box_bind]
 refine Tr.box_mono ?_ (Tr.box_and h hR)
 rintro ⟨a, s', f1, g1⟩ ⟨⟨fr, fw, hx, i1, i2⟩, hr⟩
 rw [Tr.box_map]
 refine Tr.box_mono ?_ (hk a s' hr)
 rintro ⟨b, s'', f2, g2⟩ ⟨fr', fw', hy, i3, i4⟩
 simp only at hx hy i1 i2 i3 i4 ⊢
 refine ⟨fr ++ fr', fw ++ fw', ?_, ?_, ?_⟩
 ·rw [bothP_bind, hx]
  simp only [hy]
 ·intro r hr
  rcases List.mem_append.1 hr with h | h
  ·exact List.mem_append_left _ (i1 r h)
  ·exact List.mem_append_right _ (i3 r h)
 ·intro r hr
  rcases List.mem_append.1 hr with h | h
  ·exact List.mem_append_left _ (i2 r h)
  ·exact List.mem_append_right _ (i4 r h)
theorem Sim.bind {p : PE α} {f : α → β} {q : Prog β} {k : α → PE γ} {g : γ → δ} {k' : β → Prog δ} (h : Sim s p f q) (hk : ∀ a s', Sim s' (k a) g (k' (f a))) : Sim s (p.bind k) g (q.bind k') :=
 Sim.bind2 (R := fun _ _ => True) h (Tr.each_box (Tr.each_true _)) fun a s' _ => hk a s'
theorem Sim.get {r : Res} {k : RVE → PE α} {f : α → β} {k' : RV → Prog β} (h : Sim s (k (s.get r)) f (k' (cRV (s.get r)))) : Sim s (.get r k) f (.get r k') := by
 unfold Sim at h ⊢
 simp only [PE.both, Tr.box_map]
 refine Tr.box_mono ?_ h
 rintro ⟨a, s', f1, g1⟩ ⟨fr, fw, hx, i1, i2⟩
 simp only at hx i1 i2 ⊢
 refine ⟨r :: fr, fw, ?_, fun q hq => ?_, i2⟩
 ·simp only [Prog.both]
  show (match (k' (cRV (s.get r))).both (cSt s) with | some (a, s', f, g) => some (a, s', r :: f, g) | none => none) = _
  rw [hx]
 ·rcases List.mem_cons.1 hq with h | h
  ·exact h ▸ List.mem_cons_self
  ·exact List.mem_cons_of_mem _ (i1 q h)
theorem Sim.look {r : Res} {k : RVE → PE α} {f : α → β} {q : Prog β} (h : Sim s (k (s.get r)) f q) : Sim s (.get r k) f q := by
 unfold Sim at h ⊢
 simp only [PE.both, Tr.box_map]
 refine Tr.box_mono ?_ h
 rintro ⟨a, s', f1, g1⟩ ⟨fr, fw, hx, i1, i2⟩
 exact ⟨fr, fw, hx, fun q hq => List.mem_cons_of_mem _ (i1 q hq), i2⟩
theorem Sim.put {r : Res} {x : RVE} {y : RV} {p : PE α} {f : α → β} {q : Prog β} (hr : r.isArg = false) (hy : y = cRV x) (h : Sim (s.put r x) p f q) : Sim s (.put r x p) f (.put r y q) := by
 subst hy
 unfold Sim at h ⊢
 simp only [PE.both]
 cases putOk r x with
 | false => trivial
 | true =>
 simp only
 rw [Tr.box_map]
 refine Tr.box_mono ?_ h
 rintro ⟨a, s', f1, g1⟩ ⟨fr, fw, hx, i1, i2⟩
 simp only at hx i1 i2 ⊢
 refine ⟨fr, r :: fw, ?_, i1, fun q hq => ?_⟩
 ·simp only [Prog.both]
  rw [← cSt_put s x hr, hx]
 ·rcases List.mem_cons.1 hq with h | h
  ·exact h ▸ List.mem_cons_self
  ·exact List.mem_cons_of_mem _ (i2 q h)
theorem Sim.putSame {r : Res} {x : RVE} {p : PE α} {f : α → β} {q : Prog β} (hr : r.isArg = false) (hx : cRV x = cRV (s.get r)) (h : Sim (s.put r x) p f q) : Sim s (.put r x p) f q := by
 have e : cSt (s.put r x) = cSt s := by
  rw [cSt_put s x hr, hx]
  funext y
  by_cases hy : y = r
  ·subst hy; simp [St.set, cSt]
  ·simp [St.set, hy]
 unfold Sim at h ⊢
 simp only [PE.both]
 cases putOk r x with
 | false => trivial
 | true =>
 simp only
 rw [Tr.box_map]
 refine Tr.box_mono ?_ h
 rintro ⟨a, s', f1, g1⟩ ⟨fr, fw, hx, i1, i2⟩
 rw [e] at hx
 exact ⟨fr, fw, hx, i1, fun q hq => List.mem_cons_of_mem _ (i2 q hq)⟩
theorem Sim.wr {k : Key} {os : List (Option E)} {y : RV} {p : PE α} {f : α → β} {q : Prog β} {cs : List E} (h : (s.get (.box k)).v = .agg cs) (hy : y = { hv := (s.get (.box k)).hv + 1, cv := (s.get (.box k)).cv, v := .agg (cEs (overE cs os)) }) (hp : Sim (s.wr k os) p f q) : Sim s (.wr k os p) f (.put (.box k) y q) := by
 subst hy
 unfold Sim at hp ⊢
 simp only [PE.both, Tr.box_map]
 refine Tr.box_mono ?_ hp
 rintro ⟨a, s', f1, g1⟩ ⟨fr, fw, hx, i1, i2⟩
 simp only at hx i1 i2 ⊢
 refine ⟨fr, .box k :: fw, ?_, i1, fun q hq => ?_⟩
 ·simp only [Prog.both]
  rw [← cSt_wr s k os h, hx]
 ·rcases List.mem_cons.1 hq with h | h
  ·exact h ▸ List.mem_cons_self
  ·exact List.mem_cons_of_mem _ (i2 q h)
theorem Sim.putArg {i : Nat} {x : RVE} {p : PE α} {f : α → β} {q : Prog β} : Sim s (.put (.arg i) x p) f q := trivial
theorem Sim.br {c : Bool} {p p' : PE α} {f : α → β} {q : Prog β} (h : c = true → Sim s p f q) (h' : c = false → Sim s p' f q) : Sim s (.br c p p') f q := ⟨h, h'⟩
theorem Sim.call {ρ : Type} {d : ρ} {o : Option ρ} {k : ρ → PE α} {f : α → β} {q : Prog β} (h : ∀ x, o = some x → Sim s (k x) f q) : Sim s (.call d o k) f q := h
theorem Sim.know {t : Nat} {b c : Bool} {p : PE α} {f : α → β} {q : Prog β} (h : (s.get (.tmp t)).v = .one (.b c)) (hc : c = b) (hp : Sim (s.know (.tmp t) b) p f q) : Sim s (.know (.tmp t) b p) f q := by
 unfold Sim at hp ⊢
 rw [cSt_know s h hc] at hp
 exact hp
theorem Sim.ask {c : Bool} {k : Unit → PE α} {f : α → β} {q : Prog β} (h : c = true → Sim s (k ()) f q) : Sim s ((Ve.ask c).bind k) f q := ⟨h, fun _ => trivial⟩
theorem Sim.sure {c : Bool} {k : Unit → PE α} {f : α → β} {q : Prog β} (h : c = true → Sim s (k ()) f q) : Sim s ((Ve.sure c).bind k) f q := by
 cases c with
 | true => exact h rfl
 | false => trivial
theorem Sim.comp {p : PE α} {f : α → β} {q : Prog β} {g : β → γ} (h : Sim s p f q) : Sim s p (fun a => g (f a)) (q.bind fun b => .ret (g b)) := by
 unfold Sim at h ⊢
 refine Tr.box_mono ?_ h
 rintro ⟨a, s', f1, g1⟩ ⟨fr, fw, hx, i1, i2⟩
 simp only at hx ⊢
 exact ⟨fr, fw, by rw [bothP_bind, hx]; simp [Prog.both], i1, i2⟩
theorem Sim.eqP {p : PE α} {f : α → β} {q q' : Prog β} (h : Sim s p f q') (e : q = q') : Sim s p f q := by rw [e]; exact h
theorem need_bind {α : Type} {p : Prop} [Decidable p] (h : p) (k : Unit → Prog α) : (need p).bind k = k () := by simp [need, h, Prog.bind]
theorem need_pos {p : Prop} [Decidable p] (h : p) : need p = .ret () := by simp [need, h]
end
theorem bind_eq {α β : Type} (p : Prog α) (f : α → Prog β) : (p >>= f) = p.bind f := rfl
theorem bindE_eq {α β : Type} (p : PE α) (k : α → PE β) : (p >>= k) = p.bind k := rfl
theorem retE_bind {α β : Type} (x : α) (k : α → PE β) : (PE.ret x).bind k = k x := rfl
theorem evE_sim (o : Operand) (s : ESt) : Sim s (evE o) cSV (ev o) := by
 cases o with
 | tmp t =>
  simp only [evE, ev]
  refine Sim.get ?_
  have hc := copy_eq (s.get (.tmp t)) (.tmp t)
  cases hv : (s.get (.tmp t)).v with
  | undef => exact Sim.fail
  | _ => simp only [cRV, hv, cSV] at hc ⊢; exact Sim.ret hc.symm
 | const v =>
  by_cases hagg : ∃ cs, v = .agg cs
  ·obtain ⟨cs, rfl⟩ := hagg
   simp only [evE, ev]
   cases hr : reflectAllE cs.toList with
   | none => exact Sim.fail
   | some es => obtain ⟨ds, h1, h2⟩ := reflectAll_eq hr; simp only [h1]; exact Sim.ret (by simp only [cSV, h2])
  ·have e1 : evE (.const v) = match reflectE v with | some d => PE.ret (SVE.one d) | none => .fail := by cases v <;> first | rfl | exact absurd ⟨_, rfl⟩ hagg
   have e2 : ev (.const v) = match reflect v with | some d => Prog.ret (SV.one (.d d)) | none => .fail := by cases v <;> first | rfl | exact absurd ⟨_, rfl⟩ hagg
   rw [e1, e2]
   cases hr : reflectE v with
   | none => exact Sim.fail
   | some e => obtain ⟨d, h1, h2⟩ := reflect_eq hr; simp only [h1]; exact Sim.ret (by simp only [cSV, h2])
 | func f => exact Sim.ret rfl
 | global g => exact Sim.fail
theorem evsE_sim : ∀ (os : List Operand) (s : ESt), Sim s (evsE os) (List.map cSV) (evs os)
 | [], s => Sim.ret rfl
 | o :: os, s => by
  simp only [evsE, evs, bindE_eq, bind_eq]
  exact Sim.bind (evE_sim o s) fun v s1 => Sim.bind (evsE_sim os s1) fun vs s2 => Sim.ret rfl
theorem asOneE_sim (v : SVE) (s : ESt) : Sim s (asOneE v) cE (asOne (cSV v)) := by
 cases v <;> first | exact Sim.ret rfl | exact Sim.fail
theorem ev1E_sim (o : Operand) (s : ESt) : Sim s (ev1E o) cE (ev1 o) := by
 simp only [ev1E, ev1, bindE_eq, bind_eq]
 exact Sim.bind (evE_sim o s) fun v s1 => asOneE_sim v s1
theorem cIntE_sim (c : E) (s : ESt) : Sim s (cIntE c) (fun n => n) (cInt (cE c)) := by
 cases c <;> first | exact Sim.ret rfl | exact Sim.fail
theorem freezeArg_cSt (s : ESt) (i j : Nat) {t : Ty} {ys : List t.T} (h : (s.get (.arg i)).at j = .l .own t ys) :
  cSt { s with frz := s.frz ++ [(i, j)], dirty := (.arg i, none) :: s.dirty } = (cSt s).set (.arg i) { (cRV (s.get (.arg i))) with v := (cRV (s.get (.arg i))).v.setCell j (.d (.sl t.e (ys.map (encR t)))) } := by
 have happ : ∀ (l : List (Nat × Nat)) (args : List SVE), frzArgsE (l ++ [(i, j)]) args = lset (frzArgsE l args) i (frz1E ((frzArgsE l args).getD i .undef) j) := by
  intro l
  induction l with
  | nil => intro args; rfl
  | cons p l ih => intro args; obtain ⟨a, b⟩ := p; simp only [List.cons_append, frzArgsE]; exact ih _
 generalize hA : frzArgsE s.frz s.args = A at *
 have hget : ∀ q, (s.get (.arg q)).v = A.getD q .undef := fun q => by rw [← hA]; rfl
 have hat : (A.getD i .undef).cells.getD j .dead = .l .own t ys := by rw [← hget]; exact h
 have hf1 : frz1E (A.getD i .undef) j = (A.getD i .undef).setCell j (.l .data t ys) := by
  unfold frz1E; rw [hat]
 funext q
 cases q with
 | tmp t => rw [set_other _ _ (by simp)]; rfl
 | box k => rw [set_other _ _ (by simp)]; rfl
 | arg q =>
  show cRV { v := (frzArgsE (s.frz ++ [(i, j)]) s.args).getD q .undef } = _
  rw [happ, hA]
  have hi : i < A.length := by
   by_cases hi : i < A.length
   ·exact hi
   ·have e : A.getD i .undef = .undef := by rw [List.getD_eq_getElem?_getD, List.getElem?_eq_none (by omega)]; rfl
    rw [e] at hat
    simp [SVE.cells] at hat
  rw [lset_eq]
  by_cases hq : q = i
  ·subst hq
   rw [set_same]
   simp only [cRV, List.getD_eq_getElem?_getD, List.getElem?_set_self hi, Option.getD_some]
   rw [← List.getD_eq_getElem?_getD, hf1, setCell_eq, hget]
   rfl
  ·rw [set_other _ _ (by simpa using hq)]
   simp only [List.getD_eq_getElem?_getD, List.getElem?_set_ne (Ne.symm hq)]
   show cRV _ = cRV (s.get (.arg q))
   congr 1
   show _ = ({ v := (frzArgsE s.frz s.args).getD q .undef } : RVE)
   rw [hA, List.getD_eq_getElem?_getD]
theorem freezeAt_sim (r : Res) (j : Nat) (s : ESt) : Sim s (freezeAtE r j (s.get r)) (fun _ => ()) (freezeAt r j (cRV (s.get r))) := by
 unfold freezeAtE freezeAt
 rw [at_eq]
 cases hc : (s.get r).at j with
 | l m t xs =>
  cases m with
  | data => exact Sim.ret rfl
  | bor => exact Sim.fail
  | own =>
   cases r with
   | arg i =>
    unfold Sim
    refine ⟨[], [.arg i], ?_, by simp, by simp⟩
    show (putR (.arg i) _).both (cSt s) = some ((), cSt { s with frz := s.frz ++ [(i, j)], dirty := (.arg i, none) :: s.dirty }, [], [.arg i])
    rw [freezeArg_cSt s i j hc]
    rfl
   | _ => exact Sim.put rfl (by simp only [cRV, setCell_eq]; rfl) (Sim.ret rfl)
 | n m t o =>
  cases m with
  | data => refine Sim.call fun x hx => ?_; subst hx; exact Sim.ret rfl
  | bor => exact Sim.fail
  | own =>
   cases r with
   | arg i => exact Sim.fail
   | _ =>
    refine Sim.call fun ys hx => ?_
    subst hx
    exact Sim.put rfl (by simp only [cRV, setCell_eq]; rfl) (Sim.ret rfl)
 | _ => exact Sim.fail
theorem takeAt_sim (r : Res) (j : Nat) (s : ESt) : Sim s (takeAtE r j (s.get r)) (fun _ => ()) (takeAt r j (cRV (s.get r))) := by
 unfold takeAtE takeAt
 rw [at_eq]
 cases hc : (s.get r).at j with
 | l m t xs =>
  cases m with
  | own =>
   cases r with
   | arg i => exact Sim.putArg
   | _ => exact Sim.put rfl (by simp only [cRV, setCell_eq]; rfl) (Sim.ret rfl)
  | _ => exact Sim.fail
 | n m t o =>
  cases m with
  | own =>
   refine Sim.call fun ys hx => ?_
   subst hx
   cases r with
   | arg i => exact Sim.putArg
   | _ => exact Sim.put rfl (by simp only [cRV, setCell_eq]; rfl) (Sim.ret rfl)
  | _ => exact Sim.fail
 | _ => exact Sim.fail
theorem cRV_same {x : RVE} {j : Nat} {c : E} (h : cE (x.at j) = cE c) (hd : cE c ≠ .dead) : cRV { x with v := x.v.setCell j c } = cRV x := by
 have h2 : (cSV x.v).cells.getD j .dead = cE c := by rw [← h]; exact at_eq x j
 have hj : j < (cSV x.v).cells.length := by
  rcases Nat.lt_or_ge j (cSV x.v).cells.length with hj | hj
  ·exact hj
  ·rw [List.getD_eq_getElem?_getD, List.getElem?_eq_none hj] at h2
   exact absurd h2.symm hd
 show ({ hv := x.hv, cv := x.cv, v := cSV (x.v.setCell j c) } : RV) = { hv := x.hv, cv := x.cv, v := cSV x.v }
 rw [setCell_eq, ← h2, setCell_same _ _ hj]
theorem isSome_none {α : Type} {o : Option α} (h : (false == o.isSome) = true) : o = none := by cases o <;> first | rfl | cases h
theorem isSome_some {α : Type} {o : Option α} (h : (true == o.isSome) = true) : ∃ x, o = some x := by
 cases o with
 | none => cases h
 | some x => exact ⟨x, rfl⟩
theorem freezeN_some (r : Res) (j : Nat) (s : ESt) : Sim s (freezeNE r j (s.get r) true) (fun _ => ()) (freezeAt r j (cRV (s.get r))) := by
 unfold freezeNE freezeAt
 rw [at_eq]
 cases hc : (s.get r).at j with
 | n m t o =>
  cases m with
  | data => refine Sim.br (fun h => ?_) fun _ => Sim.fail; obtain ⟨x, rfl⟩ := isSome_some h; exact Sim.ret rfl
  | bor => exact Sim.fail
  | own =>
   cases r with
   | arg i => exact Sim.fail
   | _ =>
    refine Sim.br (fun h => ?_) fun _ => Sim.fail
    obtain ⟨x, rfl⟩ := isSome_some h
    exact Sim.put rfl (by simp only [cRV, setCell_eq]; rfl) (Sim.ret rfl)
 | _ => exact Sim.fail
theorem freezeN_none (r : Res) (j : Nat) (s : ESt) : Sim s (freezeNE r j (s.get r) false) (fun _ => ()) (Prog.ret ()) := by
 unfold freezeNE
 cases hc : (s.get r).at j with
 | n m t o =>
  cases m with
  | data => exact Sim.br (fun _ => Sim.ret rfl) fun _ => Sim.fail
  | bor => exact Sim.fail
  | own =>
   cases r with
   | arg i => exact Sim.fail
   | _ =>
    refine Sim.br (fun h => ?_) fun _ => Sim.fail
    have := isSome_none h
    subst this
    exact Sim.putSame rfl (cRV_same (by rw [hc]; rfl) (by simp [cE])) (Sim.ret rfl)
 | _ => exact Sim.fail
theorem takeN_some (r : Res) (j : Nat) (s : ESt) : Sim s (takeNE r j (s.get r) true) (fun _ => ()) (takeAt r j (cRV (s.get r))) := by
 unfold takeNE takeAt
 rw [at_eq]
 cases hc : (s.get r).at j with
 | n m t o =>
  cases m with
  | own =>
   refine Sim.br (fun h => ?_) fun _ => Sim.fail
   obtain ⟨x, rfl⟩ := isSome_some h
   cases r with
   | arg i => exact Sim.putArg
   | _ => exact Sim.put rfl (by simp only [cRV, setCell_eq]; rfl) (Sim.ret rfl)
  | _ => exact Sim.fail
 | _ => exact Sim.fail
theorem takeN_none (r : Res) (j : Nat) (s : ESt) : Sim s (takeNE r j (s.get r) false) (fun _ => ()) (Prog.ret ()) := by
 unfold takeNE
 cases hc : (s.get r).at j with
 | n m t o =>
  cases m with
  | own =>
   refine Sim.br (fun h => ?_) fun _ => Sim.fail
   have := isSome_none h
   subst this
   cases r with
   | arg i => exact Sim.putArg
   | _ => exact Sim.putSame rfl (cRV_same (by rw [hc]; rfl) (by simp [cE])) (Sim.ret rfl)
  | _ => exact Sim.fail
 | _ => exact Sim.fail
theorem aliveN_sim {α β : Type} {j : Nat} {x : RVE} {b : Bool} {s : ESt} {k : Unit → PE α} {f : α → β} {q : Prog β} (h : (∃ t o, (x.at j = .n .own t o ∨ x.at j = .n .data t o) ∧ b = o.isSome) → Sim s (k ()) f q) : Sim s ((aliveNE j x b).bind k) f q := by
 have key : ∀ (t : Ty) (o : Option (List t.T)), (x.at j = .n .own t o ∨ x.at j = .n .data t o) → Sim s ((PE.br (b == o.isSome) (.ret ()) .fail).bind k) f q := by
  intro t o hx
  exact Sim.br (fun hb => h ⟨t, o, hx, by simpa using hb⟩) fun _ => trivial
 unfold aliveNE
 cases hc : x.at j with
 | n m t o =>
  cases m with
  | bor => exact Sim.fail
  | own => exact key t o (.inl hc)
  | data => exact key t o (.inr hc)
 | _ => exact Sim.fail
theorem resolveA_sim {α β : Type} {c : E} {s : ESt} {k : E → PE α} {f : α → β} {q : Prog β} (h : ∀ c', cE c' = cE c → Sim s (k c') f q) : Sim s ((resolveA c).bind k) f q := by
 cases c with
 | n m t o =>
  cases m with
  | bor r j hv cv i =>
   cases r with
   | arg a =>
    refine Sim.br (fun ho => ?_) fun ho => ?_
    ·exact h _ (cE_n _ t o ho).symm
    ·have : o = none := by cases o <;> first | rfl | cases ho
     subst this
     exact h .nil rfl
   | _ => exact h _ rfl
  | _ => exact h _ rfl
 | _ => exact h _ rfl
theorem resolve_sim {α β : Type} {c : E} {s : ESt} {k : E → PE α} {f : α → β} {q : Prog β} (h : ∀ c', cE c' = cE c → (∀ m t o, c' ≠ .n m t o) → Sim s (k c') f q) : Sim s ((resolve c).bind k) f q := by
 cases c with
 | n m t o =>
  refine Sim.br (fun ho => ?_) fun ho => ?_
  ·exact h _ (cE_n m t o ho).symm (by intro m t o h; cases h)
  ·have : o = none := by cases o <;> first | rfl | cases ho
   subst this
   exact h .nil rfl (by intro m t o h; cases h)
 | _ => exact h _ rfl (by intro m t o h; cases h)
theorem resolveB_sim {α β : Type} {c : E} {s : ESt} {k : E → PE α} {f : α → β} {q : Prog β} (h : ∀ c', cE c' = cE c → (∀ r j hv cv i t o, c' ≠ .n (.bor r j hv cv i) t o) → Sim s (k c') f q) : Sim s ((resolveB c).bind k) f q := by
 cases c with
 | n m t o =>
  cases m with
  | bor r j hv cv i =>
   refine Sim.br (fun ho => ?_) fun ho => ?_
   ·exact h _ (cE_n _ t o ho).symm (by intro r j hv cv i t o h; cases h)
   ·have : o = none := by cases o <;> first | rfl | cases ho
    subst this
    exact h .nil rfl (by intro r j hv cv i t o h; cases h)
  | _ => exact h _ rfl (by intro r j hv cv i t o h; cases h)
 | _ => exact h _ rfl (by intro r j hv cv i t o h; cases h)
end Go.Ve
namespace Go.Ve
open Go.Vs
theorem selfb (self : Option (Res × Nat)) (r : Res) (j : Nat) (b : Bool) : (selfIs self r j || b) = true ↔ (self = some (r, j) ∨ b = true) := by
 cases self with
 | none => simp [selfIs]
 | some p => obtain ⟨q, i⟩ := p; simp [selfIs, reqb_iff]
theorem takeAt_none {α β : Type} {r : Res} {j : Nat} {s : ESt} {t : Ty} (h : (s.get r).at j = .n .own t none) {k : Unit → PE α} {f : α → β} {q : Prog β} : Sim s ((takeAtE r j (s.get r)).bind k) f q := by
 unfold takeAtE
 rw [h]
 exact Sim.call fun x hx => by cases hx
theorem freezeAt_none {α β : Type} {r : Res} {j : Nat} {s : ESt} {t : Ty} (h : (s.get r).at j = .n .own t none) {k : Unit → PE α} {f : α → β} {q : Prog β} : Sim s ((freezeAtE r j (s.get r)).bind k) f q := by
 unfold freezeAtE
 rw [h]
 cases r with
 | arg i => exact Sim.fail
 | _ => exact Sim.call fun x hx => by cases hx
theorem stash1E_sim (self : Option (Res × Nat)) (take : Res → Bool) (c : E) (s : ESt) : Sim s (stash1E self take c) cE (stash self take (cE c)) := by
 cases c with
 | l m t xs =>
  cases m with
  | bor r j hv cv k =>
   simp only [stash1E, stash, cE, lC]
   cases hr : r.isArg with
   | true => simp only [if_true]; exact Sim.ret rfl
   | false =>
    simp only [Bool.false_eq_true, if_false]
    refine Sim.get ?_
    simp only [bindE_eq, bind_eq]
    refine Sim.sure fun hs => ?_
    simp only [Bool.and_eq_true, beq_iff_eq] at hs
    rw [need_bind (p := (cRV (s.get r)).hv = hv ∧ (cRV (s.get r)).cv = cv) hs]
    rw [at_eq]
    have body : ∀ (e0 : Nat) (ys0 : List (List D)), Sim s (match selfIs self r j || take r with
       | true => (takeAtE r j (s.get r)).bind fun _ => PE.ret (E.l .own t xs)
       | false => (freezeAtE r j (s.get r)).bind fun _ => PE.ret (E.l .data t xs)) cE
      (if self = some (r, j) ∨ take r = true then (takeAt r j (cRV (s.get r))).bind fun _ => Prog.ret (C.own t.e (xs.map (encR t)))
       else (freezeAt r j (cRV (s.get r))).bind fun _ => Prog.ret (C.d (D.sl t.e (xs.map (encR t))))) := by
     intro _ _
     cases hb : selfIs self r j || take r with
     | true =>
      rw [if_pos ((selfb self r j (take r)).1 hb)]
      exact Sim.bind (takeAt_sim r j s) fun _ _ => Sim.ret rfl
     | false =>
      rw [if_neg (fun h => by rw [(selfb self r j (take r)).2 h] at hb; cases hb)]
      exact Sim.bind (freezeAt_sim r j s) fun _ _ => Sim.ret rfl
    cases ha : (s.get r).at j with
    | l m' t' ys =>
     cases m' with
     | own => exact body 0 []
     | data => exact Sim.ret rfl
     | bor => exact Sim.fail
    | n m' t' o =>
     cases m' with
     | own =>
      cases o with
      | none =>
       simp only
       cases hb : selfIs self r j || take r with
       | true => exact takeAt_none ha
       | false => exact freezeAt_none ha
      | some ys => exact body 0 []
     | data => exact Sim.call fun x hx => by subst hx; exact Sim.ret rfl
     | bor => exact Sim.fail
    | _ => exact Sim.fail
  | _ => exact Sim.ret rfl
 | n m t o =>
  cases m with
  | bor r j hv cv k =>
   cases o with
   | none =>
    simp only [stash1E]
    cases hr : r.isArg with
    | true => exact Sim.ret rfl
    | false =>
     refine Sim.look ?_
     simp only [bindE_eq]
     refine Sim.sure fun hs => ?_
     cases ha : (s.get r).at j with
     | n m' t' o' =>
      cases m' with
      | own =>
       simp only
       cases hb : selfIs self r j || take r with
       | true => exact Sim.bind (k' := fun _ => Prog.ret (C.d .nil)) (q := Prog.ret ()) (f := fun _ => ()) (k := fun _ => PE.ret (E.n .own t none)) (takeN_none r j s) fun _ _ => Sim.ret rfl
       | false => exact Sim.bind (k' := fun _ => Prog.ret (C.d .nil)) (q := Prog.ret ()) (f := fun _ => ()) (k := fun _ => PE.ret (E.n .data t none)) (freezeN_none r j s) fun _ _ => Sim.ret rfl
      | data => exact aliveN_sim fun _ => Sim.ret rfl
      | bor => exact Sim.fail
     | _ => exact Sim.fail
   | some xs =>
    simp only [stash1E, stash, cE, lC]
    cases hr : r.isArg with
    | true => simp only [if_true]; exact Sim.ret rfl
    | false =>
     simp only [Bool.false_eq_true, if_false]
     refine Sim.get ?_
     simp only [bindE_eq, bind_eq]
     refine Sim.sure fun hs => ?_
     simp only [Bool.and_eq_true, beq_iff_eq] at hs
     rw [need_bind (p := (cRV (s.get r)).hv = hv ∧ (cRV (s.get r)).cv = cv) hs]
     rw [at_eq]
     have body : Sim s (match selfIs self r j || take r with
        | true => (takeNE r j (s.get r) true).bind fun _ => PE.ret (E.n .own t (some xs))
        | false => (freezeNE r j (s.get r) true).bind fun _ => PE.ret (E.n .data t (some xs))) cE
       (if self = some (r, j) ∨ take r = true then (takeAt r j (cRV (s.get r))).bind fun _ => Prog.ret (C.own t.e (xs.map (encR t)))
        else (freezeAt r j (cRV (s.get r))).bind fun _ => Prog.ret (C.d (D.sl t.e (xs.map (encR t))))) := by
      cases hb : selfIs self r j || take r with
      | true =>
       rw [if_pos ((selfb self r j (take r)).1 hb)]
       exact Sim.bind (takeN_some r j s) fun _ _ => Sim.ret rfl
      | false =>
       rw [if_neg (fun h => by rw [(selfb self r j (take r)).2 h] at hb; cases hb)]
       exact Sim.bind (freezeN_some r j s) fun _ _ => Sim.ret rfl
     cases ha : (s.get r).at j with
     | n m' t' o' =>
      cases m' with
      | own =>
       cases o' with
       | none =>
        simp only
        have no : ∀ (x : RVE), x.at j = .n .own t' none → ∀ {k : Unit → PE E} {q : Prog C}, Sim s ((takeNE r j x true).bind k) cE q ∧ Sim s ((freezeNE r j x true).bind k) cE q := by
         intro x hx k q
         constructor
         ·unfold takeNE; rw [hx]; exact Sim.br (fun h => by cases h) fun _ => trivial
         ·unfold freezeNE; rw [hx]; cases r with
          | arg i => exact Sim.fail
          | _ => exact Sim.br (fun h => by cases h) fun _ => trivial
        cases hb : selfIs self r j || take r with
        | true => exact (no _ ha).1
        | false => exact (no _ ha).2
       | some ys => exact body
      | data =>
       refine aliveN_sim fun ⟨t2, o2, h1, h2⟩ => ?_
       rw [ha] at h1
       cases o' with
       | none => (rcases h1 with h1 | h1 <;> cases h1); cases h2
       | some ys => exact Sim.ret rfl
      | bor => exact Sim.fail
     | _ => exact Sim.fail
  | _ => cases o <;> exact Sim.ret rfl
 | dead => exact Sim.fail
 | gone b => exact Sim.fail
 | _ => exact Sim.ret rfl
theorem stashE_sim (self : Option (Res × Nat)) (take : Res → Bool) (c : E) (s : ESt) : Sim s (stashE self take c) cE (stash self take (cE c)) := by
 exact stash1E_sim self take c s
theorem stashesE_sim (mk : Nat → Res × Nat) (take : Res → Bool) : ∀ (cs : List E) (i : Nat) (s : ESt), Sim s (stashesE mk take i cs) cEs (stashes mk take i (cEs cs))
 | [], i, s => Sim.ret rfl
 | c :: cs, i, s => by
  show Sim s (stashesE mk take i (c :: cs)) cEs (stashes mk take i (cE c :: cEs cs))
  simp only [stashesE, stashes, bindE_eq, bind_eq]
  exact Sim.bind (stashE_sim _ take c s) fun c' s1 => Sim.bind (stashesE_sim mk take cs (i + 1) s1) fun cs' s2 => Sim.ret rfl
theorem stashTupE_sim (mk : Nat → Res × Nat) (take : Res → Bool) : ∀ (vs : List (Bool × List E)) (i : Nat) (s : ESt), Sim s (stashTupE mk take i vs) cTup (stashTup mk take i (cTup vs))
 | [], i, s => Sim.ret rfl
 | (b, cs) :: vs, i, s => by
  show Sim s (stashTupE mk take i ((b, cs) :: vs)) cTup (stashTup mk take i ((b, cEs cs) :: cTup vs))
  simp only [stashTupE, stashTup, bindE_eq, bind_eq, cEs_length]
  exact Sim.bind (stashesE_sim mk take cs i s) fun c' s1 => Sim.bind (stashTupE_sim mk take vs _ s1) fun cs' s2 => Sim.ret rfl
theorem stashSVE_sim (r : Res) (take : Res → Bool) (v : SVE) (s : ESt) : Sim s (stashSVE r take v) cSV (stashSV r take (cSV v)) := by
 cases v with
 | one c =>
  show Sim s (stashSVE r take (.one c)) cSV (stashSV r take (.one (cE c)))
  simp only [stashSVE, stashSV, bindE_eq, bind_eq]
  exact Sim.bind (stashE_sim _ take c s) fun c' s1 => Sim.ret rfl
 | agg cs =>
  show Sim s (stashSVE r take (.agg cs)) cSV (stashSV r take (.agg (cEs cs)))
  simp only [stashSVE, stashSV, bindE_eq, bind_eq]
  exact Sim.bind (stashesE_sim _ take cs 0 s) fun c' s1 => Sim.ret rfl
 | tup vs =>
  show Sim s (stashSVE r take (.tup vs)) cSV (stashSV r take (.tup (cTup vs)))
  simp only [stashSVE, stashSV, bindE_eq, bind_eq]
  exact Sim.bind (stashTupE_sim _ take vs 0 s) fun c' s1 => Sim.ret rfl
 | undef => exact Sim.fail
theorem isData_some {c : E} (h : isData c = true) : ∃ d, cE c = .d d := by
 cases c with
 | l m t xs => cases m <;> first | exact ⟨_, rfl⟩ | cases h
 | n m t o => cases m <;> cases o <;> first | exact ⟨_, rfl⟩ | cases h
 | _ => first | exact ⟨_, rfl⟩ | cases h
def unD : C → D
 | .d x => x
 | _ => .nil
def unDE (c : E) : D := unD (cE c)
theorem toD1E_sim (c : E) (s : ESt) : Sim s (toD1E c) unDE (toD (cE c)) := by
 have dat : ∀ {c : E}, isData c = true → toD1E c = PE.ret c → Sim s (toD1E c) unDE (toD (cE c)) := by
  intro c hd he
  rw [he]
  obtain ⟨d, h⟩ := isData_some hd
  refine Sim.eqP (Sim.ret rfl) ?_
  unfold unDE
  rw [h]
  rfl
 cases c with
 | l m t xs =>
  cases m with
  | bor r j hv cv k =>
   simp only [toD1E, toD, cE, lC]
   refine Sim.get ?_
   simp only [bindE_eq, bind_eq]
   refine Sim.sure fun hs => ?_
   simp only [Bool.and_eq_true, beq_iff_eq] at hs
   rw [need_bind (p := (cRV (s.get r)).hv = hv ∧ (cRV (s.get r)).cv = cv) hs]
   exact Sim.bind (freezeAt_sim r j s) fun _ _ => Sim.ret rfl
  | data => exact dat rfl rfl
  | own => exact Sim.fail
 | n m t o =>
  cases m with
  | bor r j hv cv k =>
   cases o with
   | none =>
    simp only [toD1E]
    refine Sim.look ?_
    simp only [bindE_eq]
    refine Sim.sure fun hs => ?_
    exact Sim.bind (k' := fun _ => Prog.ret D.nil) (q := Prog.ret ()) (f := fun _ => ()) (k := fun _ => PE.ret (E.n .data t none)) (freezeN_none r j s) fun _ _ => Sim.ret rfl
   | some xs =>
    simp only [toD1E, toD, cE, lC]
    refine Sim.get ?_
    simp only [bindE_eq, bind_eq]
    refine Sim.sure fun hs => ?_
    simp only [Bool.and_eq_true, beq_iff_eq] at hs
    rw [need_bind (p := (cRV (s.get r)).hv = hv ∧ (cRV (s.get r)).cv = cv) hs]
    exact Sim.bind (freezeN_some r j s) fun _ _ => Sim.ret rfl
  | data => exact dat rfl rfl
  | own => exact Sim.fail
 | i => exact dat rfl rfl
 | b => exact dat rfl rfl
 | tt => exact dat rfl rfl
 | ff => exact dat rfl rfl
 | s => exact dat rfl rfl
 | nil => exact dat rfl rfl
 | nul => exact dat rfl rfl
 | _ => exact Sim.fail
theorem toDE_sim (c : E) (s : ESt) : Sim s (toDE c) unDE (toD (cE c)) := by
 unfold toDE
 simp only [bindE_eq]
 refine resolveA_sim fun c' h1 => ?_
 rw [← h1]
 exact toD1E_sim c' s
theorem toDsE_sim : ∀ (cs : List E) (s : ESt), Sim s (toDsE cs) (List.map unDE) (toDs (cEs cs))
 | [], s => Sim.ret rfl
 | c :: cs, s => by
  show Sim s (toDsE (c :: cs)) _ (toDs (cE c :: cEs cs))
  simp only [toDsE, toDs, bindE_eq, bind_eq]
  exact Sim.bind (toDE_sim c s) fun c' s1 => Sim.bind (toDsE_sim cs s1) fun cs' s2 => Sim.ret rfl
theorem row_unD {t : Ty} {cs : List E} {x : t.T} (h : rowT t cs = some x) : (cs.map unDE) = encR t x := by
 have := rowT_eq h
 have h2 := congrArg (List.map unD) this
 simp only [cEs, List.map_map] at h2
 have e : (unD ∘ C.d) = id := by funext d; rfl
 rw [e, List.map_id] at h2
 exact h2
theorem asCells_eq (v : SVE) : (cSV v).asCells = v.asCells.map cEs := by cases v <;> rfl
theorem cast_map {t t' : Ty} (h : t' = t) (xs : List t'.T) : (h ▸ xs : List t.T).map (encR t) = xs.map (encR t') := by subst h; rfl
theorem cast_opt {t t' : Ty} (h : t' = t) (o : Option (List t'.T)) : ((h ▸ o : Option (List t.T)).getD []).map (encR t) = (o.getD []).map (encR t') := by subst h; rfl
theorem elems1E_sim (t : Ty) (c : E) (s : ESt) : Sim s (elems1E t c) (List.map (encR t)) (elems t.e (cE c)) := by
 cases c with
 | nil => exact Sim.ret rfl
 | l m t' xs =>
  cases m with
  | own => exact Sim.fail
  | data =>
   simp only [elems1E, elems, cE, lC, bind_eq]
   split
   ·rename_i h
    subst h
    simp only [bindE_eq]
    refine Sim.sure fun hm => ?_
    rw [need_bind (by simpa using hm)]
    exact Sim.ret rfl
   ·exact Sim.fail
  | bor r j hv cv k =>
   simp only [elems1E, elems, cE, lC]
   refine Sim.get ?_
   simp only [bind_eq]
   cases hs : (s.get r).hv == hv && (s.get r).cv == cv && !isMap t.e with
   | false => exact Sim.fail
   | true =>
    simp only [Bool.and_eq_true, beq_iff_eq, Bool.not_eq_true'] at hs
    obtain ⟨hs, hm⟩ := hs
    have fin : alive (cRV (s.get r)) j = true → Sim s (if h : t' = t then PE.ret (h ▸ xs) else .fail) (List.map (encR t)) ((need ((cRV (s.get r)).hv = hv ∧ (cRV (s.get r)).cv = cv ∧ alive (cRV (s.get r)) j = true ∧ t'.e = t.e ∧ isMap t'.e = false)).bind fun _ => Prog.ret (xs.map (encR t'))) := by
     intro hal
     split
     ·rename_i h
      subst h
      rw [need_bind ⟨hs.1, hs.2, hal, rfl, hm⟩]
      exact Sim.ret rfl
     ·exact Sim.fail
    cases ha : (s.get r).at j with
    | l m' t2 ys =>
     cases m' with
     | bor => exact Sim.fail
     | _ => exact fin (by unfold alive; rw [at_eq, ha]; rfl)
    | n m' t2 o =>
     cases m' with
     | bor => exact Sim.fail
     | _ => exact Sim.call fun x hx => by subst hx; exact fin (by unfold alive; rw [at_eq, ha]; rfl)
    | _ => exact Sim.fail
 | n m t' o =>
  cases m with
  | bor r j hv cv k =>
   cases o with
   | none =>
    simp only [elems1E]
    refine Sim.look ?_
    cases hs : (s.get r).hv == hv && (s.get r).cv == cv && !isMap t.e with
    | false => exact Sim.fail
    | true =>
     simp only [bindE_eq]
     refine aliveN_sim fun _ => ?_
     split
     ·rename_i h
      subst h
      exact Sim.ret rfl
     ·exact Sim.fail
   | some xs =>
    simp only [elems1E, elems, cE, lC]
    refine Sim.get ?_
    simp only [bind_eq]
    cases hs : (s.get r).hv == hv && (s.get r).cv == cv && !isMap t.e with
    | false => exact Sim.fail
    | true =>
     simp only [Bool.and_eq_true, beq_iff_eq, Bool.not_eq_true'] at hs
     obtain ⟨hs, hm⟩ := hs
     simp only [bindE_eq]
     refine aliveN_sim fun ⟨t2, o2, h1, h2⟩ => ?_
     obtain ⟨ys, rfl⟩ := isSome_some (o := o2) (by rw [← h2]; rfl)
     have hal : alive (cRV (s.get r)) j = true := by unfold alive; rw [at_eq]; rcases h1 with h1 | h1 <;> rw [h1] <;> rfl
     split
     ·rename_i h
      subst h
      rw [need_bind ⟨hs.1, hs.2, hal, rfl, hm⟩]
      exact Sim.ret rfl
     ·exact Sim.fail
  | own => exact Sim.fail
  | data =>
   simp only [elems1E]
   split
   ·rename_i h
    subst h
    simp only [bindE_eq]
    refine Sim.sure fun hm => ?_
    cases o with
    | none => exact Sim.ret rfl
    | some xs =>
     show Sim s _ _ ((need (t'.e = t'.e ∧ isMap t'.e = false)).bind fun _ => .ret (xs.map (encR t')))
     rw [need_bind ⟨rfl, by simpa using hm⟩]
     exact Sim.ret rfl
   ·exact Sim.fail
 | _ => exact Sim.fail
theorem elemsE_sim (t : Ty) (c : E) (s : ESt) : Sim s (elemsE t c) (List.map (encR t)) (elems t.e (cE c)) := by
 exact elems1E_sim t c s
theorem binIntE_sim (op : BinOp) (k : IntKind) (a b : Int) (s : ESt) : Sim s (binIntE op k a b) cSV (binInt op k a b) := by
 cases op with
 | quo =>
  simp only [binIntE, binInt, bindE_eq, bind_eq]
  exact Sim.ask fun h => by rw [need_bind (of_decide_eq_true h)]; exact Sim.ret rfl
 | rem =>
  simp only [binIntE, binInt, bindE_eq, bind_eq]
  exact Sim.ask fun h => by rw [need_bind (of_decide_eq_true h)]; exact Sim.ret rfl
 | _ => first | exact Sim.ret rfl | exact Sim.fail
theorem binStrE_sim (op : BinOp) (a b : List UInt8) (s : ESt) : Sim s (binStrE op a b) cSV (binStr op a b) := by
 cases op with
 | add =>
  simp only [binStrE, binStr, bindE_eq, bind_eq]
  exact Sim.ask fun h => by rw [need_bind (by have := of_decide_eq_true h; omega)]; exact Sim.ret rfl
 | _ => first | exact Sim.ret rfl | exact Sim.fail
theorem boolOf_eq {c : E} {b : Bool} (h : boolOf c = some b) : cE c = .d (.bool b) := by
 cases c <;> first | (cases h; rfl) | (cases h; done)
theorem binBoolE_sim (cfg : Cfg) (t : TypeId) (op : BinOp) (x y : E) (s : ESt) : Sim s (binBoolE cfg t op x y) cSV (binP cfg t op (cE x) (cE y)) := by
 unfold binBoolE
 cases hx : boolOf x with
 | none => exact Sim.fail
 | some a =>
  cases hy : boolOf y with
  | none => exact Sim.fail
  | some b =>
   simp only
   rw [boolOf_eq hx, boolOf_eq hy]
   simp only [binP]
   cases hb : ECfgBool cfg t with
   | false => exact Sim.fail
   | true =>
    obtain ⟨sz, by', z, hti⟩ : ∃ sz by' z, cfg.ti t = some ⟨sz, by', .bool, z⟩ := by
     unfold ECfgBool at hb
     split at hb
     ·rename_i sz by' z h; exact ⟨sz, by', z, h⟩
     ·cases hb
    rw [hti]
    cases op <;> first | exact Sim.ret rfl | exact Sim.fail
theorem nilE_eq {c : E} {b : Bool} (h : nilE c = some b) : slNil (cE c) = some b := by
 cases c with
 | l m t xs => cases m <;> exact h
 | n m t o =>
  cases o with
  | none =>
   simp only [nilE] at h
   split at h
   ·cases h
   ·exact h
  | some xs => cases m <;> exact h
 | nil => exact h
 | _ => cases h
theorem binNilE_sim (cfg : Cfg) (t : TypeId) (op : BinOp) (x : E) (s : ESt) : Sim s (binNilE cfg t op x) cSV (binP cfg t op (cE x) (cE .nil)) := by
 unfold binNilE
 cases hn : nilE x with
 | none => cases isSlT cfg t <;> cases op <;> exact Sim.fail
 | some b =>
  have h1 := nilE_eq hn
  have e : binP cfg t op (cE x) (cE .nil) = binNilP cfg t op (cE x) := by
   show binP cfg t op (cE x) (.d .nil) = _
   cases hc : cE x with
   | d y => cases y <;> rfl
   | _ => rfl
  rw [e]
  unfold binNilP
  cases hb : isSlT cfg t with
  | false => exact Sim.fail
  | true =>
   obtain ⟨sz, by', et, z, hti⟩ : ∃ sz by' et z, cfg.ti t = some ⟨sz, by', .slice et, z⟩ := by
    unfold isSlT at hb
    split at hb
    ·rename_i sz by' et z h; exact ⟨sz, by', et, z, h⟩
    ·cases hb
   rw [hti, h1]
   cases op <;> first | exact Sim.ret rfl | exact Sim.fail
theorem binE_sim (cfg : Cfg) (t : TypeId) (op : BinOp) (x y : E) (s : ESt) : Sim s (binE cfg t op x y) cSV (binP cfg t op (cE x) (cE y)) := by
 unfold binE
 split
 ·rename_i k a k' b
  simp only [binP, cE]
  split
  ·simp only [bindE_eq, bind_eq]
   exact Sim.ask fun h => by rw [need_bind (of_decide_eq_true h)]; exact Sim.ret rfl
  ·simp only [bindE_eq, bind_eq]
   exact Sim.ask fun h => by rw [need_bind (of_decide_eq_true h)]; exact Sim.ret rfl
  ·rename_i h1 h2
   split
   ·rename_i h; subst h
    refine Sim.eqP (binIntE_sim _ _ _ _ s) ?_
    cases op <;> first | rfl | exact (h1 rfl).elim | exact (h2 rfl).elim
   ·exact Sim.fail
 ·exact binStrE_sim _ _ _ s
 ·exact binNilE_sim _ _ _ _ s
 ·exact binBoolE_sim cfg t op _ _ s
theorem eqEs_eq : ∀ {sh : List Sc} {xs ys : List E} {r : Bool}, eqEs sh xs ys = some r → ∃ ds es, datas (cEs xs) = some ds ∧ datas (cEs ys) = some es ∧ r = eqDs ds es ∧ fitSc sh ds = true ∧ fitSc sh es = true
 | sh, xs, ys, r, h => by
  unfold eqEs at h
  split at h
  ·cases h; exact ⟨[], [], rfl, rfl, rfl, rfl, rfl⟩
  ·rename_i k sh' k1 a xs' k2 b ys'
   split at h
   ·rename_i hk
    obtain ⟨rfl, rfl⟩ := hk
    split at h
    ·rename_i r' hr
     cases h
     obtain ⟨ds, es, h1, h2, h3, h4, h5⟩ := eqEs_eq hr
     exact ⟨.int k2 a :: ds, .int k2 b :: es, by simp only [cEs, List.map_cons, cE, datas] at h1 ⊢; rw [h1], by simp only [cEs, List.map_cons, cE, datas] at h2 ⊢; rw [h2], by simp only [eqDs, eqD, h3], by simp [fitSc, h4], by simp [fitSc, h5]⟩
    ·cases h
   ·cases h
  ·rename_i sh' a xs' b ys'
   split at h
   ·rename_i r' hr
    cases h
    obtain ⟨ds, es, h1, h2, h3, h4, h5⟩ := eqEs_eq hr
    exact ⟨.str a :: ds, .str b :: es, by simp only [cEs, List.map_cons, cE, datas] at h1 ⊢; rw [h1], by simp only [cEs, List.map_cons, cE, datas] at h2 ⊢; rw [h2], by simp only [eqDs, eqD, h3], by simp [fitSc, h4], by simp [fitSc, h5]⟩
   ·cases h
  ·rename_i sh' x xs' y ys'
   split at h
   ·rename_i a b r' hx hy hr
    cases h
    obtain ⟨ds, es, h1, h2, h3, h4, h5⟩ := eqEs_eq hr
    exact ⟨.bool a :: ds, .bool b :: es, by simp only [cEs, List.map_cons] at h1 ⊢; rw [boolOf_eq hx]; simp only [datas, h1], by simp only [cEs, List.map_cons] at h2 ⊢; rw [boolOf_eq hy]; simp only [datas, h2], by simp only [eqDs, eqD, h3], by simp [fitSc, h4], by simp [fitSc, h5]⟩
   ·cases h
  ·cases h
theorem eqAggE_sim (cfg : Cfg) (t : TypeId) (op : BinOp) (xs ys : List E) (s : ESt) : Sim s (eqAggE cfg t op xs ys) cSV (eqAgg cfg t op (cEs xs) (cEs ys)) := by
 unfold eqAggE eqAgg
 cases lk t cfg.eqs with
 | none => exact Sim.fail
 | some sh =>
  simp only
  split
  ·rename_i r h2
   obtain ⟨ds, es, g1, g2, g3, g4, g5⟩ := eqEs_eq h2
   rw [g1, g2, g3]
   simp only [g4, g5, Bool.and_self, if_true]
   exact Sim.ret rfl
  ·rename_i r h2
   obtain ⟨ds, es, g1, g2, g3, g4, g5⟩ := eqEs_eq h2
   rw [g1, g2, g3]
   simp only [g4, g5, Bool.and_self, if_true]
   exact Sim.ret rfl
  ·exact Sim.fail
theorem nlt_iff (a b : Nat) : nlt a b = true ↔ a < b := by simp [nlt, Nat.ble_eq]; omega
theorem cEs_drop_take (cs : List E) (a b : Nat) : cEs ((cs.drop a).take b) = ((cEs cs).drop a).take b := by simp [cEs, List.map_take, List.map_drop]
theorem cE_dead {c : E} (h : c ≠ .dead) (hg : ∀ b, c ≠ .gone b) : cE c ≠ .dead := by
 cases c with
 | gone b => exact absurd rfl (hg b)
 | l m t xs => cases m <;> simp [cE, lC]
 | n m t o => cases m <;> cases o <;> simp [cE, lC]
 | dead => exact absurd rfl h
 | _ => simp [cE]
theorem slice1E_sim (i : TI) (cs : List E) (off : Nat) (s : ESt) : Sim s (slice1E i cs off) cSV (slice1 i (cEs cs) off) := by
 unfold slice1E slice1
 simp only [bind_eq]
 split
 ·rename_i h
  simp only [Bool.and_eq_true, nlt_iff, Nat.ble_eq] at h
  rw [need_bind (by simpa using h)]
  split
  ·rename_i ha
   rw [if_pos ha]
   exact Sim.ret (by simp only [cSV, cEs_drop_take])
  ·rename_i ha
   rw [if_neg (by simp [ha])]
   have hg : (cEs cs)[off]? = (cs[off]?).map cE := by simp [cEs]
   rw [hg]
   cases hc : cs[off]? with
   | none => exact Sim.fail
   | some c =>
    simp only [Option.map_some]
    by_cases hd : c = .dead
    ·subst hd; exact Sim.fail
    ·by_cases hg : ∃ b, c = .gone b
     ·obtain ⟨b, rfl⟩ := hg; exact Sim.fail
     have hg : ∀ b, c ≠ .gone b := fun b hb => hg ⟨b, hb⟩
     have h1 := cE_dead hd hg
     have e1 : (match (some c : Option E) with | some .dead => PE.fail | some (.gone _) => PE.fail | some c => PE.ret (SVE.one c) | none => .fail) = PE.ret (.one c) := by
      split
      ·rename_i heq; cases heq; exact absurd rfl hd
      ·rename_i b heq; cases heq; exact absurd rfl (hg b)
      ·rename_i heq; cases heq; rfl
      ·rename_i heq; cases heq
     have e2 : ∀ x : C, x ≠ .dead → (match (some x : Option C) with | some .dead => Prog.fail | some c => Prog.ret (SV.one c) | none => .fail) = Prog.ret (.one x) := by
      intro x hx
      cases x <;> first | rfl | exact absurd rfl hx
     exact Sim.eqP (by show Sim s (match (some c : Option E) with | some .dead => PE.fail | some (.gone _) => PE.fail | some c => PE.ret (SVE.one c) | none => .fail) cSV (Prog.ret (.one (cE c))); rw [e1]; exact Sim.ret rfl) (e2 _ h1)
 ·exact Sim.fail
theorem getD_getElem {α : Type} (l : List α) (n : Nat) (d : α) (h : n < l.length) : l[n]? = some (l.getD n d) := by
 rw [List.getD_eq_getElem?_getD, List.getElem?_eq_getElem h]; rfl
theorem loadE_sim (i : TI) (a : E) (s : ESt) : Sim s (loadE i a) cSV (loadP i (cE a)) := by
 cases a with
 | ptr k off =>
  simp only [loadE, loadP, cE]
  refine Sim.get ?_
  cases hv : (s.get (.box k)).v with
  | agg cs =>
   simp only [cRV, hv, cSV]
   refine Sim.eqP (slice1E_sim i _ off s) ?_
   rw [bcells_eq]
   simp only [cRV, hv, cSV]
  | _ => simp only [cRV, hv, cSV]; exact Sim.fail
 | ea r j hv t n off =>
  simp only [loadE, loadP, cE]
  refine Sim.get ?_
  simp only [bind_eq]
  cases hs : (s.get r).hv == hv with
  | false => exact Sim.fail
  | true =>
   simp only [beq_iff_eq] at hs
   rw [need_bind (p := (cRV (s.get r)).hv = hv) hs]
   rw [at_eq]
   have fin : ∀ (t : Ty) (ys : List t.T), Sim s ((do ask (nlt n ys.length); slice1E i (cellsT t (ys.getD n t.zero)) off : PE SVE)) cSV (match (ys.map (encR t))[n]? with | some ds => slice1 i (ds.map .d) off | none => .fail) := by
    intro t ys
    simp only [bindE_eq]
    refine Sim.ask fun h => ?_
    rw [nlt_iff] at h
    rw [List.getElem?_map, getD_getElem ys n t.zero h]
    simp only [Option.map_some]
    rw [← cells_enc]
    exact slice1E_sim i _ off s
   cases ha : (s.get r).at j with
   | l m t ys =>
    cases m with
    | bor => exact Sim.fail
    | _ => exact fin t ys
   | n m t o =>
    cases m with
    | bor => exact Sim.fail
    | _ =>
     cases o with
     | none => simp only [bindE_eq]; exact Sim.ask fun h => by simp [nlt_iff] at h
     | some ys => exact fin t ys
   | _ => exact Sim.fail
 | da t x off =>
  simp only [loadE, loadP, cE]
  refine Sim.eqP (slice1E_sim i _ 0 s) ?_
  congr 1
  have := congrArg (List.drop off) (cells_enc t x)
  simp only [cEs, ← List.map_drop] at this
  exact this.symm
 | l m t xs => cases m <;> exact Sim.fail
 | n m t o => cases m <;> cases o <;> exact Sim.fail
 | _ => exact Sim.fail
theorem splice_map {α β : Type} (f : α → β) (l : List α) (off : Nat) (m : List α) : (splice l off m).map f = splice (l.map f) off (m.map f) := by simp [splice, List.map_take, List.map_drop]
theorem cEs_splice (l : List E) (off : Nat) (m : List E) : cEs (splice l off m) = splice (cEs l) off (cEs m) := splice_map cE l off m
theorem storeE_sim (take take' : Res → Bool) (htk : take = take') (i : TI) (a : E) (v : SVE) (s : ESt) : Sim s (storeE take i a v) (fun _ => ()) (storeP take' i (cE a) (cSV v)) := by
 subst htk
 unfold storeE storeP
 rw [asCells_eq]
 cases hv : v.asCells with
 | none =>
  simp only [Option.map_none]
  cases a <;> exact Sim.fail
 | some cs =>
  simp only [Option.map_some]
  cases a with
  | ptr k off =>
   simp only [cE, bindE_eq, bind_eq, cEs_length]
   refine Sim.sure fun h => ?_
   rw [need_bind (by simpa using h)]
   refine Sim.bind (stashesE_sim _ take cs 0 s) fun cs' s1 => Sim.get ?_
   cases hb : (s1.get (.box k)).v with
   | agg old =>
    simp only [cRV, hb, cSV, cEs_length]
    refine Sim.sure fun h2 => ?_
    simp only [Bool.and_eq_true, Nat.ble_eq] at h2
    rw [need_bind h2.1]
    refine Sim.wr hb ?_ (Sim.ret rfl)
    rw [overE_splice _ _ _ h2.2, cEs_splice]
   | _ => simp only [cRV, hb, cSV]; exact Sim.fail
  | ea r j hv t0 n off =>
   simp only [cE, bindE_eq, bind_eq, cEs_length]
   refine Sim.sure fun h => ?_
   have hlen : cs.length = i.size := by simpa using h
   rw [need_bind hlen]
   refine Sim.bind (toDsE_sim cs s) fun ds s1 => Sim.get ?_
   refine Sim.sure fun h2 => ?_
   simp only [Bool.and_eq_true, beq_iff_eq, Bool.not_eq_true'] at h2
   rw [need_bind (p := (cRV (s1.get r)).hv = hv ∧ r.isArg = false) h2]
   rw [at_eq]
   have fin : ∀ (t : Ty) (ys : List t.T), Sim s1 ((ask (nlt n ys.length)).bind fun _ => (sure (Nat.ble (off + i.size) t.w)).bind fun _ => match rowT t (splice (cellsT t (ys.getD n t.zero)) off ds) with
      | some row' => putE r { (s1.get r) with cv := (s1.get r).cv + 1, v := (s1.get r).v.setCell j (.l .own t (ys.set n row')) }
      | none => .fail) (fun _ => ()) (match (ys.map (encR t))[n]? with
     | some row => (need (off + i.size ≤ row.length)).bind fun _ => putR r { (cRV (s1.get r)) with cv := (cRV (s1.get r)).cv + 1, v := (cRV (s1.get r)).v.setCell j (.own t.e ((ys.map (encR t)).set n (splice row off (ds.map unDE)))) }
     | none => .fail) := by
    intro t ys
    refine Sim.ask fun h => ?_
    rw [nlt_iff] at h
    refine Sim.sure fun h3 => ?_
    rw [List.getElem?_map, getD_getElem ys n t.zero h]
    simp only [Option.map_some]
    rw [need_bind (by rw [encR_length]; simpa [Nat.ble_eq] using h3)]
    cases hrow : rowT t (splice (cellsT t (ys.getD n t.zero)) off ds) with
    | none => exact Sim.fail
    | some row' =>
     refine Sim.put h2.2 ?_ (Sim.ret rfl)
     simp only [cRV, setCell_eq, cE, lC]
     congr 3
     rw [List.map_set]
     congr 1
     rw [← row_unD hrow, splice_map]
     congr 1
     have := congrArg (List.map unD) (cells_enc t (ys.getD n t.zero))
     simp only [cEs, List.map_map] at this
     have e : (unD ∘ C.d) = id := by funext d; rfl
     rw [e, List.map_id] at this
     exact this.symm
   cases ha : (s1.get r).at j with
   | l m t ys =>
    cases m with
    | own => exact fin t ys
    | _ => exact Sim.fail
   | n m t o =>
    cases m with
    | own =>
     cases o with
     | none => exact Sim.ask fun h => by simp [nlt_iff] at h
     | some ys => exact fin t ys
    | _ => exact Sim.fail
   | _ => exact Sim.fail
  | l m t xs => cases m <;> exact Sim.fail
  | n m t o => cases m <;> cases o <;> exact Sim.fail
  | _ => exact Sim.fail
end Go.Ve
/- The typed evaluator keeps step: addresses, building, slices, calls, regions. -/
namespace Go.Ve
open Go.Vs

theorem fieldE_sim (cfg : Cfg) (t : TypeId) (c : E) (f : Nat) (s : ESt) : Sim s (fieldE cfg t c f) cE (fieldP cfg t (cE c) f) := by
  unfold fieldE fieldP
  split
  · rename_i h0
    simp only [h0, bindE_eq, bind_eq]
    split
    · rename_i h1
      simp only [h1]
      split
      · rename_i h2
        simp only [h2]
        refine Sim.sure fun h => ?_
        rw [need_bind (by simpa using h)]
        cases c with
        | ptr k off => exact Sim.ret rfl
        | ea r j hv t n off => exact Sim.ret rfl
        | da t x off =>
          simp only [cE]
          refine Sim.sure fun h => ?_
          rw [need_bind (by rw [List.length_drop, encR_length]; have := Nat.ble_eq.mp h; omega)]
          exact Sim.ret (by simp only [cE, List.drop_drop])
        | l m t xs => cases m <;> exact Sim.fail
        | n m t o => cases m <;> cases o <;> exact Sim.fail
        | _ => exact Sim.fail
      · exact Sim.fail
    · exact Sim.fail
  · exact Sim.fail
theorem eMap {a b : Nat} (h : (a == b && !isMap a) = true) : a = b ∧ isMap b = false := by
  simp only [Bool.and_eq_true, beq_iff_eq, Bool.not_eq_true'] at h
  exact ⟨h.1, by rw [← h.1]; exact h.2⟩
theorem eMap' {a b : Nat} (h : (b == a && !isMap a) = true) : b = a ∧ isMap b = false := by
  simp only [Bool.and_eq_true, beq_iff_eq, Bool.not_eq_true'] at h
  exact ⟨h.1, by rw [h.1]; exact h.2⟩
theorem indexAddrE_sim (cfg : Cfg) (t : TypeId) (c : E) (n : Int) (s : ESt) : Sim s (indexAddrE cfg t c n) cE (indexAddrP cfg t (cE c) n) := by
  unfold indexAddrE indexAddrP
  split
  · rename_i h0
    simp only [h0, bindE_eq, bind_eq]
    split
    · rename_i i hi
      simp only [hi]
      have bor : ∀ (r : Res) (j hv cv k : Nat) (t : Ty) (xs : List t.T), decide (0 ≤ n ∧ n < xs.length) = true → Sim s ((sure (i.size == t.e && !isMap i.size)).bind fun _ => PE.ret (E.ea r j hv t (k + n.toNat) 0)) cE
          ((need (0 ≤ n ∧ n < (xs.map (encR t)).length)).bind fun _ => (need (i.size = t.e ∧ isMap t.e = false)).bind fun _ => Prog.ret (C.ea r j hv t.e (k + n.toNat) 0)) := by
        intro r j hv cv k t xs h
        rw [need_bind (by simpa using of_decide_eq_true h)]
        exact Sim.sure fun h2 => by rw [need_bind (eMap h2)]; exact Sim.ret rfl
      have dat : ∀ (t : Ty) (xs : List t.T), decide (0 ≤ n ∧ n < xs.length) = true → Sim s ((sure (i.size == t.e && !isMap i.size)).bind fun _ => PE.ret (E.da t (xs.getD n.toNat t.zero) 0)) cE
          ((need (0 ≤ n ∧ n < (xs.map (encR t)).length)).bind fun _ => (need (i.size = t.e ∧ isMap t.e = false)).bind fun _ => match (xs.map (encR t))[n.toNat]? with | some ds => Prog.ret (C.da ds) | none => .fail) := by
        intro t xs h
        have h1 := of_decide_eq_true h
        rw [need_bind (by simpa using h1)]
        refine Sim.sure fun h2 => ?_
        rw [need_bind (eMap h2), List.getElem?_map, getD_getElem xs n.toNat t.zero (by omega)]
        exact Sim.ret rfl
      cases c with
      | l m t xs =>
        cases m with
        | own => exact Sim.fail
        | bor r j hv cv k => exact Sim.ask fun h => bor r j hv cv k t xs h
        | data => exact Sim.ask fun h => dat t xs h
      | n m t o =>
        cases m with
        | own => cases o <;> exact Sim.fail
        | bor r j hv cv k =>
          refine Sim.ask fun h => ?_
          cases o with
          | none => have := of_decide_eq_true h; simp [lenI] at this; omega
          | some xs => exact bor r j hv cv k t xs h
        | data =>
          refine Sim.ask fun h => ?_
          cases o with
          | none => have := of_decide_eq_true h; simp [lenI] at this; omega
          | some xs => exact dat t xs h
      | _ => exact Sim.fail
    · exact Sim.fail
  · rename_i h0
    simp only [h0, bindE_eq, bind_eq]
    split
    · rename_i hi
      simp only [hi]
      cases c with
      | ptr k off => exact Sim.sure fun h => by simp only [cE]; rw [need_bind (of_decide_eq_true h)]; exact Sim.ret rfl
      | l m t xs => cases m <;> exact Sim.fail
      | n m t o => cases m <;> cases o <;> exact Sim.fail
      | _ => exact Sim.fail
    · exact Sim.fail
  · exact Sim.fail
theorem indexE_sim (cfg : Cfg) (t : TypeId) (v : SVE) (n : Int) (s : ESt) : Sim s (indexE cfg t v n) cSV (indexP cfg t (cSV v) n) := by
  unfold indexE
  split
  · rename_i h
    simp only [indexP, cSV, cE, h, bindE_eq, bind_eq]
    refine Sim.ask fun h1 => Sim.ask fun h2 => ?_
    rw [need_bind (of_decide_eq_true h1)]
    rw [nlt_iff] at h2
    rw [getD_getElem _ _ 0 h2]
    exact Sim.ret rfl
  · rename_i h
    simp only [indexP, cSV, h, bindE_eq, bind_eq]
    split
    · rename_i hi
      simp only [hi]
      refine Sim.sure fun h1 => ?_
      rw [need_bind (of_decide_eq_true h1)]
      exact slice1E_sim _ _ _ s
    · exact Sim.fail
  · exact Sim.fail
theorem lenE_sim (b : Bool) (v : SVE) (s : ESt) : Sim s (lenE b v) cSV (lenP b (cSV v)) := by
  unfold lenE
  have key : ∀ (t : Ty) (n : Int) (q : Prog SV), (isMap t.e = false → Sim s (PE.ret (dintE .i64 n)) cSV q) → Sim s (do sure (!isMap t.e); .ret (dintE .i64 n)) cSV q := by
    intro t n q h
    simp only [bindE_eq]
    exact Sim.sure fun hm => h (by simpa using hm)
  split
  · exact Sim.ret rfl
  · exact Sim.ret rfl
  · refine key _ _ _ fun hm => ?_
    simp only [lenP, cSV, cE, lC, bind_eq]
    rw [need_bind hm]
    exact Sim.ret (by simp [dint, dintE, cSV, cE, lenI])
  · refine key _ _ _ fun hm => ?_
    simp only [lenP, cSV, cE, lC, bind_eq]
    rw [need_bind hm]
    exact Sim.ret (by simp [dint, dintE, cSV, cE, lenI])
  · rename_i o
    refine key _ _ _ fun hm => ?_
    cases o with
    | none => exact Sim.ret rfl
    | some xs =>
      simp only [lenP, cSV, cE, lC, bind_eq]
      rw [need_bind hm]
      exact Sim.ret (by simp [dint, dintE, cSV, cE, lenI])
  · rename_i o
    refine key _ _ _ fun hm => ?_
    cases o with
    | none => exact Sim.ret rfl
    | some xs =>
      simp only [lenP, cSV, cE, lC, bind_eq]
      rw [need_bind hm]
      exact Sim.ret (by simp [dint, dintE, cSV, cE, lenI])
  · exact Sim.fail

/-! ## Building -/
theorem fillE_eq : ∀ (ps : List (Nat × List E)) (cells : List E), cEs (fillE cells ps) = fill (cEs cells) (ps.map fun p => (p.1, cEs p.2))
  | [], cells => rfl
  | (off, cs) :: r, cells => by simp only [fillE, List.map_cons, fill]; rw [fillE_eq r, cEs_splice]
theorem partsOfE_sim (fs : List (Nat × TypeId)) (cfg : Cfg) : ∀ (ps : List (Nat × Operand)) (s : ESt), Sim s (partsOfE fs cfg ps) (List.map fun p => (p.1, cEs p.2)) (partsOf fs cfg ps)
  | [], s => Sim.ret rfl
  | (i, o) :: r, s => by
    simp only [partsOfE, partsOf, bindE_eq, bind_eq]
    refine Sim.bind (evE_sim o s) fun v s1 => ?_
    rw [asCells_eq]
    cases fs[i]? with
    | none => exact Sim.fail
    | some p =>
      cases v.asCells with
      | none => exact Sim.fail
      | some cs =>
        obtain ⟨off, t⟩ := p
        simp only [Option.map_some]
        cases cfg.ti t with
        | none => exact Sim.fail
        | some ti =>
          simp only [cEs_length]
          refine Sim.sure fun h => ?_
          rw [need_bind (by simpa using h)]
          exact Sim.bind (partsOfE_sim fs cfg r s1) fun rest s2 => Sim.ret rfl
theorem ofD_eq {d : D} {c : E} (h : ofD d = some c) : cE c = .d d := by
  cases d with
  | bool b => cases h; cases b <;> rfl
  | sl => cases h
  | _ => cases h; rfl
theorem ofDs_eq : ∀ {ds : List D} {cs : List E}, ofDs ds = some cs → cEs cs = ds.map .d
  | [], cs, h => by cases h; rfl
  | d :: ds, cs, h => by
    unfold ofDs at h
    split at h
    · rename_i c cs' h1 h2
      cases h
      have := ofDs_eq h2
      simp only [cEs, List.map_cons] at this ⊢
      rw [ofD_eq h1, this]
    · cases h
theorem fits_eq {size : Nat} {ps : List (Nat × List E)} (h : fits size ps = true) : ∀ p ∈ (ps.map fun p => (p.1, cEs p.2)), p.1 + p.2.length ≤ size := by
  intro p hp
  obtain ⟨q, hq, rfl⟩ := List.mem_map.1 hp
  have := List.all_eq_true.1 h q hq
  simpa [Nat.ble_eq] using this
theorem buildE_sim (cfg : Cfg) (t : TypeId) (ps : List (Nat × Operand)) (s : ESt) : Sim s (buildE cfg t ps) cSV (buildP cfg t ps) := by
  unfold buildE buildP
  split
  · rename_i size bytes fs z h
    simp only [h, bindE_eq, bind_eq]
    refine Sim.sure fun h1 => ?_
    simp only [Bool.and_eq_true, beq_iff_eq, List.all_eq_true] at h1
    rw [need_bind h1]
    refine Sim.bind (partsOfE_sim fs cfg ps s) fun ps' s1 => Sim.sure fun h2 => ?_
    rw [need_bind (fits_eq h2)]
    cases hz : ofDs z with
    | none => exact Sim.fail
    | some cs => exact Sim.ret (by simp only [cSV, fillE_eq, ofDs_eq hz])
  · rename_i n et size bytes z h
    simp only [h, bindE_eq, bind_eq]
    split
    · rename_i hi
      simp only [hi]
      refine Sim.sure fun h1 => ?_
      simp only [beq_iff_eq] at h1
      rw [need_bind h1]
      refine Sim.bind (partsOfE_sim _ cfg ps s) fun ps' s1 => Sim.sure fun h2 => ?_
      rw [need_bind (fits_eq h2)]
      cases hz : ofDs z with
      | none => exact Sim.fail
      | some cs => exact Sim.ret (by simp only [cSV, fillE_eq, ofDs_eq hz])
    · exact Sim.fail
  · exact Sim.fail
theorem zeroOk_eq : ∀ (t : Ty) (z r : List D), zeroOk t z = some r → z = encR t t.zero ++ r
  | .int k, z, r, h => by
    unfold zeroOk at h
    split at h <;> first | (cases h; done) | skip
    all_goals (rename_i heq; cases heq)
    split at h
    · rename_i h1; obtain ⟨rfl, rfl⟩ := h1; cases h; rfl
    · cases h
  | .bool, z, r, h => by
    unfold zeroOk at h
    split at h <;> first | (cases h; done) | skip
    all_goals (rename_i heq; cases heq)
    split at h
    · rename_i h1; subst h1; cases h; rfl
    · cases h
  | .str, z, r, h => by
    unfold zeroOk at h
    split at h <;> first | (cases h; done) | skip
    all_goals (rename_i heq; cases heq)
    split at h
    · cases h; rfl
    · cases h
  | .sl t, z, r, h => by
    unfold zeroOk at h
    split at h <;> first | (cases h; done) | skip
    all_goals (rename_i heq; cases heq)
    cases h; rfl
  | .pair a b, z, r, h => by
    unfold zeroOk at h
    split at h
    · rename_i r1 h1
      have e1 := zeroOk_eq a _ _ h1
      have e2 := zeroOk_eq b _ _ h
      rw [e1, e2]
      simp [encR, Ty.zero]
    · cases h
  | .set _, z, r, h => by cases h
  | .ent _ _ _, z, r, h => by cases h
theorem zeroIs_eq {t : Ty} {z : List D} (h : zeroIs t z = true) : z = encR t t.zero := by
  unfold zeroIs at h
  split at h
  · rename_i h1
    have := zeroOk_eq t _ _ h1
    simpa using this
  · cases h
theorem rowsOfE_sim (t : Ty) (size : Nat) : ∀ (ps : List (Nat × Operand)) (rows : List t.T) (s : ESt), Sim s (rowsOfE t size ps rows) (List.map (encR t)) (rowsOf size ps (rows.map (encR t)))
  | [], rows, s => Sim.ret rfl
  | (i, o) :: r, rows, s => by
    simp only [rowsOfE, rowsOf, bindE_eq, bind_eq]
    refine Sim.bind (evE_sim o s) fun v s1 => ?_
    rw [asCells_eq]
    cases v.asCells with
    | none => exact Sim.fail
    | some cs =>
      simp only [Option.map_some, cEs_length]
      refine Sim.sure fun h => ?_
      simp only [Bool.and_eq_true, beq_iff_eq, nlt_iff] at h
      rw [need_bind (by simpa using h)]
      refine Sim.bind (toDsE_sim cs s1) fun ds s2 => ?_
      cases hrow : rowT t ds with
      | none => exact Sim.fail
      | some x =>
        have := rowsOfE_sim t size r (lset rows i x) s2
        rw [lset_eq, List.map_set, ← row_unD hrow, ← lset_eq] at this
        exact this
theorem buildSliceE_sim (cfg : ECfg) (t : TypeId) (len : Nat) (ps : List (Nat × Operand)) (s : ESt) : Sim s (buildSliceE cfg t len ps) cSV (buildSliceP cfg.c t len ps) := by
  unfold buildSliceE buildSliceP
  split
  · rename_i et _ h0
    simp only [h0]
    cases cfg.c.ti et with
    | none => exact Sim.fail
    | some i =>
      cases lk et cfg.R with
      | none => exact Sim.fail
      | some ty =>
        simp only [bindE_eq, bind_eq]
        cases i.zero with
        | none => exact Sim.fail
        | some z =>
          simp only
          refine Sim.sure fun h => ?_
          simp only [Bool.and_eq_true, beq_iff_eq, nlt_iff, Nat.ble_eq, Bool.not_eq_true'] at h
          obtain ⟨⟨⟨⟨⟨h1, h2⟩, h3⟩, h4⟩, hm⟩, h5⟩ := h
          rw [need_bind ⟨h1, h2, h3, hm⟩]
          have e := zeroIs_eq h5
          have : List.replicate len z = (List.replicate len ty.zero).map (encR ty) := by rw [List.map_replicate, e]
          rw [this]
          exact Sim.bind (rowsOfE_sim ty i.size ps _ s) fun rows s1 => Sim.ret (by simp only [cSV, cE, lC, h4])
  · exact Sim.fail
theorem makeSliceE_sim (cfg : ECfg) (t : TypeId) (len cap : Int) (s : ESt) : Sim s (makeSliceE cfg t len cap) cSV (makeSliceP cfg.c t len cap) := by
  unfold makeSliceE makeSliceP
  split
  · rename_i et _ h0
    simp only [h0]
    cases cfg.c.ti et with
    | none => exact Sim.fail
    | some i =>
      cases lk et cfg.R with
      | none => exact Sim.fail
      | some ty =>
        simp only [bindE_eq, bind_eq]
        cases i.zero with
        | none => exact Sim.fail
        | some z =>
          simp only
          refine Sim.sure fun h => Sim.ask fun hh => ?_
          simp only [Bool.and_eq_true, beq_iff_eq, nlt_iff, Nat.ble_eq, Bool.not_eq_true'] at h
          obtain ⟨⟨⟨⟨⟨h1, h2⟩, h3⟩, h4⟩, hm⟩, h5⟩ := h
          rw [need_bind ⟨h1, h2, h3, hm⟩, need_bind (by simpa using of_decide_eq_true hh)]
          have e := zeroIs_eq h5
          exact Sim.ret (by simp only [cSV, cE, lC, h4, List.map_replicate, e])
  · exact Sim.fail

/-! ## Appending -/
theorem append1E_sim (i : TI) (t : Ty) (c : E) (ys : List t.T) (lit : Bool) (s : ESt) (hc : ∀ m t o, c ≠ .n m t o) : Sim s (append1E i t c ys lit) cSV (appendP i (cE c) (ys.map (encR t))) := by
  unfold append1E appendP
  simp only [bindE_eq, bind_eq]
  refine Sim.sure fun h => ?_
  simp only [Bool.and_eq_true, nlt_iff, Nat.ble_eq, beq_iff_eq, Bool.not_eq_true'] at h
  obtain ⟨⟨⟨⟨⟨h1, h2⟩, h3⟩, h4⟩, h5⟩, hm⟩ := h
  rw [need_bind ⟨h1, h2, h3, by revert h4; cases i.zero <;> simp, hm⟩]
  cases c with
  | nil =>
    simp only [cE]
    refine Sim.ask fun hl => ?_
    rw [need_bind (by simpa using of_decide_eq_true hl)]
    cases lit with
    | true =>
      cases ys with
      | nil => exact Sim.ret rfl
      | cons y r => exact Sim.ret (by simp only [cSV, cE, lC, h5])
    | false =>
      cases ys with
      | nil => exact Sim.ret rfl
      | cons y r => exact Sim.ret (by simp only [cSV, cE, optL, lC, h5])
  | n m t o => exact absurd rfl (hc m t o)
  | l m t' xs =>
    cases m with
    | own => exact Sim.fail
    | data => exact Sim.fail
    | bor r j hv cv k =>
      simp only [cE, lC]
      refine Sim.get ?_
      refine Sim.sure fun hs => ?_
      simp only [Bool.and_eq_true, beq_iff_eq, Bool.not_eq_true'] at hs
      obtain ⟨⟨g1, g2⟩, g3⟩ := hs
      have key : ∀ (zs : List (List D)) (zl : Nat), zs.length = zl → Sim s ((ask (decide (k + xs.length = zl))).bind fun _ => (ask (decide (xs.length + ys.length ≤ 68719476736))).bind fun _ => (takeAtE r j (s.get r)).bind fun _ => if h : t' = t then PE.ret (SVE.one (.l .own t ((h ▸ xs) ++ ys))) else .fail) cSV
          ((need ((cRV (s.get r)).hv = hv ∧ (cRV (s.get r)).cv = cv ∧ t'.e = i.size ∧ r.isArg = false)).bind fun _ => (need (k + (xs.map (encR t')).length = zs.length)).bind fun _ => (need ((xs.map (encR t')).length + (ys.map (encR t)).length ≤ 2 ^ 36)).bind fun _ => (takeAt r j (cRV (s.get r))).bind fun _ => Prog.ret (SV.one (.own t'.e (xs.map (encR t') ++ ys.map (encR t))))) := by
        intro zs zl hz
        by_cases ht : t' = t
        · subst ht
          refine Sim.ask fun a1 => Sim.ask fun a2 => ?_
          rw [need_bind ⟨g1, g2, h5.symm, g3⟩, need_bind (by rw [hz]; simpa using of_decide_eq_true a1), need_bind (by simpa using of_decide_eq_true a2)]
          refine Sim.bind (takeAt_sim r j s) fun _ s1 => ?_
          simp only [dite_true]
          exact Sim.ret (by simp only [cSV, cE, lC, List.map_append])
        · refine Sim.ask fun a1 => Sim.ask fun a2 => ?_
          simp only [ht, dite_false]
          unfold Sim
          rw [bothE_bind, Tr.box_bind]
          generalize (takeAtE r j (s.get r)).both s = tr
          induction tr with
          | leaf a => trivial
          | fail => trivial
          | br c t e iht ihe => exact ⟨fun _ => iht, fun _ => ihe⟩
          | call d o k ih => exact fun x _ => ih x
          | sum o k k' ih ih' => exact ⟨fun x _ => ih x, fun x _ => ih' x⟩
      rw [at_eq]
      cases ha : (s.get r).at j with
      | l m t2 zs =>
        cases m with
        | own => exact key (zs.map (encR t2)) _ (by simp)
        | _ => exact Sim.fail
      | n m t2 o =>
        cases m with
        | own => exact Sim.call fun zs hz => by subst hz; exact key (zs.map (encR t2)) _ (by simp)
        | _ => exact Sim.fail
      | _ => exact Sim.fail
  | _ => exact Sim.fail
theorem optL_cE (t : Ty) (w : Nat) (hw : w = t.e) (ys : List t.T) : (SV.one (cE (.n .own t (optL ys)))) = if ys.map (encR t) = [] then SV.one (.d .nil) else SV.one (.own w (ys.map (encR t))) := by
  subst hw
  cases ys with
  | nil => rfl
  | cons y r => simp only [optL, cE, lC, List.map_cons, reduceCtorEq, if_false]
theorem appendNE_sim (i : TI) (t : Ty) (r : Res) (j hv cv k : Nat) (t' : Ty) (o : Option (List t'.T)) (ys : List t.T) (lit : Bool) (s : ESt) : Sim s (appendNE i t r j hv cv k t' o ys lit) cSV (appendP i (cE (.n (.bor r j hv cv k) t' o)) (ys.map (encR t))) := by
  unfold appendNE appendP
  simp only [bindE_eq, bind_eq]
  refine Sim.sure fun h => ?_
  simp only [Bool.and_eq_true, nlt_iff, Nat.ble_eq, beq_iff_eq, Bool.not_eq_true'] at h
  obtain ⟨⟨⟨⟨⟨h1, h2⟩, h3⟩, h4⟩, h5⟩, hm⟩ := h
  rw [need_bind ⟨h1, h2, h3, by revert h4; cases i.zero <;> simp, hm⟩]
  cases o with
  | none =>
    simp only [cE]
    refine Sim.look ?_
    refine Sim.sure fun hs => ?_
    cases ha : (s.get r).at j with
    | n m' t2 o' =>
      cases m' with
      | own =>
        refine Sim.ask fun _ => Sim.ask fun a2 => ?_
        simp only [Option.getD_none, List.length_nil, Nat.zero_add, decide_eq_true_eq] at a2
        rw [need_bind (by simpa using a2)]
        refine Sim.bind (k' := fun _ => if ys.map (encR t) = [] then Prog.ret (SV.one (.d .nil)) else Prog.ret (SV.one (.own i.size (ys.map (encR t))))) (q := Prog.ret ()) (f := fun _ => ()) (takeN_none r j s) fun _ s1 => ?_
        split
        · rename_i ht
          subst ht
          have fin : Sim s1 (PE.ret (SVE.one (.n .own t' (appL none ys)))) cSV (if ys.map (encR t') = [] then Prog.ret (SV.one (.d .nil)) else Prog.ret (SV.one (.own i.size (ys.map (encR t'))))) := by
            have e := optL_cE t' i.size h5 ys
            have : (if ys.map (encR t') = [] then Prog.ret (SV.one (.d .nil)) else Prog.ret (SV.one (.own i.size (ys.map (encR t'))))) = Prog.ret (SV.one (cE (.n .own t' (optL ys)))) := by
              rw [e]; split <;> rfl
            rw [this]
            exact Sim.ret rfl
          cases lit with
          | false => exact fin
          | true =>
            cases ys with
            | nil => exact fin
            | cons y q =>
              simp only [List.map_cons, reduceCtorEq, if_false]
              exact Sim.ret (by simp only [cSV, cE, lC, h5, Option.getD_none, List.nil_append, List.map_cons])
        · exact Sim.fail
      | _ => exact Sim.fail
    | _ => exact Sim.fail
  | some xs =>
    simp only [cE, lC]
    refine Sim.get ?_
    refine Sim.sure fun hs => ?_
    simp only [Bool.and_eq_true, beq_iff_eq, Bool.not_eq_true'] at hs
    obtain ⟨⟨g1, g2⟩, g3⟩ := hs
    rw [at_eq]
    cases ha : (s.get r).at j with
    | n m' t2 o' =>
      cases m' with
      | own =>
        refine Sim.ask fun a1 => Sim.ask fun a2 => ?_
        simp only [Option.getD_some, decide_eq_true_eq] at a1 a2
        cases o' with
        | none =>
          unfold takeNE
          rw [ha]
          exact Sim.br (fun h => by cases h) fun _ => trivial
        | some zs =>
          simp only [cE, lC]
          by_cases ht : t' = t
          · subst ht
            rw [need_bind ⟨g1, g2, h5.symm, g3⟩, need_bind (by simpa using a1), need_bind (by simpa using a2)]
            refine Sim.bind (takeN_some r j s) fun _ s1 => ?_
            simp only [dite_true]
            cases lit with
            | false => exact Sim.ret (by simp only [cSV, cE, lC, appL, List.map_append])
            | true =>
              cases ys with
              | nil => exact Sim.ret (by simp only [cSV, cE, lC, appL, List.map_append])
              | cons y q => exact Sim.ret (by simp only [cSV, cE, lC, Option.getD_some, List.map_append])
          · unfold Sim
            rw [bothE_bind, Tr.box_bind]
            simp only [ht, dite_false]
            generalize (takeNE r j (s.get r) _).both s = tr
            induction tr with
            | leaf a => trivial
            | fail => trivial
            | br c t e iht ihe => exact ⟨fun _ => iht, fun _ => ihe⟩
            | call d o k ih => exact fun x _ => ih x
            | sum o k k' ih ih' => exact ⟨fun x _ => ih x, fun x _ => ih' x⟩
      | _ => exact Sim.fail
    | _ => exact Sim.fail
theorem appendE_sim (i : TI) (t : Ty) (c : E) (ys : List t.T) (lit : Bool) (s : ESt) : Sim s (appendE i t c ys lit) cSV (appendP i (cE c) (ys.map (encR t))) := by
  unfold appendE
  have gen : Sim s (do append1E i t (← resolve c) ys lit) cSV (appendP i (cE c) (ys.map (encR t))) := by
    simp only [bindE_eq]
    refine resolve_sim fun c' h1 h2 => ?_
    rw [← h1]
    exact append1E_sim i t c' ys lit s h2
  cases c with
  | n m t' o =>
    cases m with
    | bor r j hv cv k => exact appendNE_sim i t r j hv cv k t' o ys lit s
    | _ => exact gen
  | _ => exact gen
theorem capE_sim (c : E) (s : ESt) : Sim s (capE c) cSV (capP (cE c)) := by
  unfold capE
  cases c with
  | nil => exact Sim.ret rfl
  | n m t o =>
    simp only [bindE_eq]
    refine Sim.ask fun h => ?_
    cases o with
    | none => exact Sim.ret rfl
    | some xs => cases h
  | _ => exact Sim.fail
theorem makeNil_sim {i : TI} {t : Ty} {z : List D} {n : Int} {s : ESt} (hz : i.zero = some z) (h : (z.length == i.size && nlt 0 i.size && nlt 0 i.bytes && Nat.ble i.bytes 1024 && i.size == t.e && !isMap i.size && zeroIs t z) = true) (hn : 0 ≤ n ∧ n ≤ 68719476736) :
    Sim s (PE.ret (.one (.n .own t (optL (List.replicate n.toNat t.zero))))) cSV (appendMakeP i (.d .nil) n) := by
  simp only [Bool.and_eq_true, beq_iff_eq, nlt_iff, Nat.ble_eq, Bool.not_eq_true'] at h
  obtain ⟨⟨⟨⟨⟨⟨h1, h2⟩, h3⟩, h4⟩, h5⟩, hm⟩, h6⟩ := h
  have e := zeroIs_eq h6
  unfold appendMakeP
  simp only [hz, bind_eq]
  rw [need_bind ⟨h1, h2, h3, h4, hm⟩, need_bind (by simpa using hn)]
  have e2 := optL_cE t i.size h5 (List.replicate n.toNat t.zero)
  by_cases h0 : n.toNat = 0
  · rw [if_pos h0]
    refine Sim.ret ?_
    rw [h0]
    rfl
  · rw [if_neg h0]
    refine Sim.ret ?_
    show _ = SV.one (cE (.n .own t (optL (List.replicate n.toNat t.zero))))
    rw [e2, if_neg (by simp [h0]), e, List.map_replicate]
theorem appendMakeE_sim (i : TI) (t : Ty) (c : E) (n : Int) (s : ESt) : Sim s (appendMakeE i t c n) cSV (appendMakeP i (cE c) n) := by
  unfold appendMakeE
  split
  · rename_i z hz
    simp only [bindE_eq]
    refine Sim.sure fun h => ?_
    cases c with
    | nil =>
      simp only
      refine Sim.ask fun hn => ?_
      exact makeNil_sim hz h (of_decide_eq_true hn)
    | n m t o =>
      simp only
      refine Sim.ask fun hn => ?_
      rw [Bool.and_eq_true] at hn
      cases o with
      | none => exact makeNil_sim hz h (of_decide_eq_true hn.2)
      | some xs => exact absurd hn.1 (by simp)
    | _ => exact Sim.fail
  · exact Sim.fail
theorem addedE_sim (cfg : Cfg) (i : TI) (t : Ty) (tid : TypeId) (c : E) (s : ESt) : Sim s (addedE cfg i t tid c) (List.map (encR t)) (addedP cfg i tid (cE c)) := by
  unfold addedE
  split
  · rename_i h
    split
    · split
      · rename_i ht
        subst ht
        simp only [addedP, cE, h, bindE_eq, bind_eq]
        refine Sim.sure fun hs => ?_
        rw [need_bind (by simpa using hs)]
        exact Sim.ret (by simp [encR, bytesI, byteI])
      · exact Sim.fail
    · exact Sim.fail
  · rename_i h
    have e : addedP cfg i tid (cE c) = elems i.size (cE c) := by
      unfold addedP
      rw [h]
    rw [e]
    simp only [bindE_eq]
    refine Sim.sure fun hs => ?_
    simp only [beq_iff_eq] at hs
    rw [hs]
    exact elemsE_sim t c s
  · exact Sim.fail

/-! ## Parts -/
theorem subStrE_sim (v : SVE) (lo hi : Option Int) (s : ESt) : Sim s (subStrE v lo hi) cSV (subStr (cSV v) lo hi) := by
  unfold subStrE
  split
  · simp only [subStr, cSV, cE, bindE_eq, bind_eq]
    refine Sim.ask fun h => ?_
    rw [need_bind (by simpa [lenI] using of_decide_eq_true h)]
    exact Sim.ret rfl
  · exact Sim.fail
theorem subL_map {α β : Type} (f : α → β) (l h : Int) (xs : List α) : (subL l h xs).map f = ((xs.map f).take h.toNat).drop l.toNat := by simp [subL, List.map_take, List.map_drop]
theorem subL_nil {α : Type} (l h : Int) : subL l h ([] : List α) = [] := by simp [subL]
theorem subSlE_sim (size : Nat) (v : SVE) (lo hi : Option Int) (s : ESt) : Sim s (subSlE size v lo hi) cSV (subSl size (cSV v) lo hi) := by
  unfold subSlE
  split
  · simp only [subSl, cSV, cE, bindE_eq, bind_eq]
    refine Sim.ask fun h => ?_
    rw [need_bind (of_decide_eq_true h)]
    exact Sim.ret rfl
  · rename_i t xs
    simp only [subSl, cSV, cE, lC, bindE_eq, bind_eq]
    refine Sim.ask fun h => Sim.sure fun h2 => ?_
    rw [need_bind (by simpa [lenI] using of_decide_eq_true h), need_bind (eMap' h2)]
    exact Sim.ret (by simp only [cSV, cE, lC, subL_map, List.length_map, lenI])
  · rename_i t o
    simp only [bindE_eq]
    refine Sim.ask fun h => Sim.sure fun h2 => ?_
    have hh := of_decide_eq_true h
    cases o with
    | none =>
      simp only [subSl, cSV, cE, bind_eq]
      simp only [lenI, Option.getD_none, List.length_nil, Int.natCast_zero] at hh
      rw [need_bind (by constructor; · omega
                        · cases hi with
                          | none => rfl
                          | some x => simp only [Option.getD_some] at hh ⊢; omega)]
      exact Sim.ret rfl
    | some xs =>
      simp only [subSl, cSV, cE, lC, bind_eq]
      rw [need_bind (by simpa [lenI] using hh), need_bind (eMap' h2)]
      exact Sim.ret (by simp only [cSV, cE, lC, subL_map, List.length_map, Option.map_some, Option.getD_some, lenI])
  · rename_i r j hv cv k t xs
    simp only [subSl, cSV, cE, lC, bindE_eq, bind_eq]
    refine Sim.ask fun h => Sim.sure fun h2 => ?_
    rw [need_bind (by simpa [lenI] using of_decide_eq_true h), need_bind (eMap' h2)]
    exact Sim.ret (by simp only [cSV, cE, lC, subL_map, List.length_map, lenI])
  · rename_i r j hv cv k t o
    simp only [bindE_eq]
    refine Sim.ask fun h => Sim.sure fun h2 => ?_
    have hh := of_decide_eq_true h
    cases o with
    | none =>
      simp only [subSl, cSV, cE, bind_eq]
      simp only [lenI, Option.getD_none, List.length_nil, Int.natCast_zero] at hh
      rw [need_bind (by constructor; · omega
                        · cases hi with
                          | none => rfl
                          | some x => simp only [Option.getD_some] at hh ⊢; omega)]
      exact Sim.ret rfl
    | some xs =>
      simp only [subSl, cSV, cE, lC, bind_eq]
      rw [need_bind (by simpa [lenI] using hh), need_bind (eMap' h2)]
      exact Sim.ret (by simp only [cSV, cE, lC, subL_map, List.length_map, Option.map_some, Option.getD_some, lenI])
  · exact Sim.fail
theorem isBytes_eq {cfg : Cfg} {et : TypeId} (h : isBytes cfg et = true) : ∃ b z, cfg.ti et = some ⟨1, b, .int .u8, z⟩ := by
  unfold isBytes at h
  split at h
  · rename_i b z hh; exact ⟨b, z, hh⟩
  · cases h
theorem convertE_sim (cfg : Cfg) (src dst : TypeId) (v : SVE) (s : ESt) : Sim s (convertE cfg src dst v) cSV (convertP cfg src dst (cSV v)) := by
  unfold convertE
  split
  · rename_i h1 h2
    split
    · simp only [convertP, h1, h2, cSV, cE]
      exact Sim.ret rfl
    · exact Sim.fail
  · rename_i i _ _ _ h1 h2
    split
    · simp only [convertP, h1, h2, cSV, cE]
      exact Sim.ret rfl
    · rename_i c hc
      split
      · rename_i et hk
        split
        · rename_i hb
          obtain ⟨b, z, hh⟩ := isBytes_eq hb
          have e : convertP cfg src dst (cSV (.one c)) = (elems 1 (cE c)).bind fun xs => match xs.mapM (fun x => match x with | [.int .u8 n] => some (UInt8.ofNat n.toNat) | _ => none) with
              | some l => Prog.ret (SV.one (.d (.str l)))
              | none => .fail := by
            obtain ⟨isz, iby, ik, iz⟩ := i
            simp only at hk
            subst hk
            simp only [convertP, h1, h2, cSV, bind_eq]
            cases c with
            | l m t xs => cases m <;> (simp only [cE, lC, hh]; rfl)
            | n m t o => cases m <;> cases o <;> (simp only [cE, lC, hh]; rfl)
            | s x => exact absurd rfl (hc x)
            | gone b => cases b <;> (simp only [cE, hh]; rfl)
            | _ => simp only [cE, hh]; rfl
          rw [e]
          simp only [bindE_eq]
          refine Sim.bind (elemsE_sim (.int .u8) c s) fun xs s1 => ?_
          have : ∀ l : List Int, (l.map (encR (.int .u8))).mapM (fun x => match x with | [.int .u8 n] => some (UInt8.ofNat n.toNat) | _ => none) = some (l.map fun n => UInt8.ofNat n.toNat) := by
            intro l
            induction l with
            | nil => rfl
            | cons n l ih => rw [List.map_cons, List.mapM_cons, ih]; rfl
          rw [this xs]
          exact Sim.ret rfl
        · exact Sim.fail
      · exact Sim.fail
    · exact Sim.fail
  · rename_i h1 h2
    split
    · split
      · rename_i hb
        obtain ⟨b, z, hh⟩ := isBytes_eq hb
        simp only [convertP, h1, h2, cSV, cE, hh]
        exact Sim.ret (by simp [cSV, cE, lC, encR, Ty.w, Ty.e, bytesI, byteI])
      · exact Sim.fail
    · exact Sim.fail
  · exact Sim.fail
end Go.Ve
