/- An evaluator of this program's code over plain values, proved sound: part 2. -/
import Derived.MapKept
import Derived.WideKeyRuns
import Derived.Maps.RangeRun
import Derived.Test.YtmoineigflegeaaGreatDoorV1
namespace Go.Vs
open Go.MapKept
theorem mode_kl {ki ei : TI} (h1 : ki.size < 32768) (h2 : ei.size < 32768) : mKl (mcode ki ei) = ki.size := by
 unfold mKl mcode mapE
 have a : ki.kind.agg.toNat ≤ 1 := by cases ki.kind.agg <;> simp
 have b : ei.kind.agg.toNat ≤ 1 := by cases ei.kind.agg <;> simp
 omega
theorem mode_vl {ki ei : TI} (h2 : ei.size < 32768) : mVl (mcode ki ei) = ei.size := by
 unfold mVl mcode mapE
 have a : ki.kind.agg.toNat ≤ 1 := by cases ki.kind.agg <;> simp
 have b : ei.kind.agg.toNat ≤ 1 := by cases ei.kind.agg <;> simp
 omega
theorem mode_ka {ki ei : TI} (h2 : ei.size < 32768) : mKa (mcode ki ei) = ki.kind.agg := by
 unfold mKa mcode mapE
 cases ki.kind.agg <;> cases ei.kind.agg <;> simp <;> omega
theorem mode_va {ki ei : TI} : mVa (mcode ki ei) = ei.kind.agg := by
 unfold mVa mcode mapE
 cases ki.kind.agg <;> cases ei.kind.agg <;> simp <;> omega
theorem entOk_iff {ki ei : TI} (h1 : ki.size < 32768) (h2 : ei.size < 32768) {en : MapEntry} : EntOk (mcode ki ei) en ↔ shapeOk ki.kind.agg ki.size en.key ∧ shapeOk ei.kind.agg ei.size en.val := by
 have a := mode_ka (ki := ki) h2
 have b := mode_kl h1 h2
 have c : mVa (mcode ki ei) = ei.kind.agg := mode_va
 have d := mode_vl (ki := ki) h2
 unfold EntOk
 rw [a, b, c, d]
theorem mode_map {ki ei : TI} : isMap (mcode ki ei) = true := by
 unfold isMap mcode mapE
 simp
theorem mode_it {ki ei : TI} (h1 : ki.size < 32768) (h2 : ei.size < 32768) : isIt (mcode ki ei) = false := by
 have a : ki.kind.agg.toNat ≤ 1 := by cases ki.kind.agg <;> decide
 have b : ei.kind.agg.toNat ≤ 1 := by cases ei.kind.agg <;> decide
 have : mcode ki ei < 1099511627776 := by unfold mcode mapE; omega
 unfold isIt
 cases h : Nat.ble 1099511627776 (mcode ki ei)
 ·rfl
 ·have := Nat.le_of_ble_eq_true h; omega
theorem mode_lt {ki ei : TI} (h1 : ki.size < 32768) (h2 : ei.size < 32768) : mcode ki ei < 549755813888 := by
 have a : ki.kind.agg.toNat ≤ 1 := by cases ki.kind.agg <;> decide
 have b : ei.kind.agg.toNat ≤ 1 := by cases ei.kind.agg <;> decide
 unfold mcode mapE; omega
theorem mode_un {ki ei : TI} (h1 : ki.size < 32768) (h2 : ei.size < 32768) : isUn (mcode ki ei) = false := by
 have := mode_lt h1 h2
 unfold isUn
 cases h : Nat.ble 549755813888 (mcode ki ei)
 ·rfl
 ·have := Nat.le_of_ble_eq_true h; omega
structure Coded (ki ei : TI) (e : Nat) : Prop where
 mp : isMap e = true
 it : isIt e = false
 oe : oE e = mcode ki ei
theorem isIt_lt {e : Nat} (h : e < 1099511627776) : isIt e = false := by
 unfold isIt
 cases h2 : Nat.ble 1099511627776 e
 ·rfl
 ·have := Nat.le_of_ble_eq_true h2; omega
theorem unE_le (e : Nat) : 549755813888 ≤ unE e ∧ unE e = e + 549755813888 := by unfold unE; omega
theorem oE_un {e n : Nat} (h1 : 549755813888 ≤ e) (h2 : e < 1099511627776) (h3 : e = n + 549755813888) : oE e = n := by
 have hu : isUn e = true := by
  unfold isUn
  rw [isIt_lt h2, Nat.ble_eq_true_of_le h1]; rfl
 unfold oE
 rw [hu]
 show e - 549755813888 = n
 omega
theorem coded {ki ei : TI} (h1 : ki.size < 32768) (h2 : ei.size < 32768) {e : Nat} (h : e = mcode ki ei ∨ e = unE (mcode ki ei)) : Coded ki ei e := by
 rcases h with rfl | h
 ·exact ⟨mode_map, mode_it h1 h2, oE_of (mode_un h1 h2)⟩
 ·have hl := mode_lt h1 h2
  obtain ⟨a, b⟩ := unE_le (mcode ki ei)
  rw [← h] at a b
  have hlt : e < 1099511627776 := by omega
  have hmp : 4294967296 ≤ e := by omega
  exact ⟨Nat.ble_eq_true_of_le hmp, isIt_lt hlt, oE_un a hlt b⟩
section
variable {K : Ctx} {β : Key → Option Nat} {ω : Nat → Option Holder} {Z : Nat → Prop} {s : St} {a : Act} {w : World} {cfg : Cfg}
theorem mapT_parts {P : Program} (hT : Tabs P cfg) {t kt : TypeId} {ki ei : TI} (h : mapT cfg t = some (kt, ki, ei)) :
  ∃ et, P.underlying t = some (.map kt et) ∧ cfg.ti kt = some ki ∧ cfg.ti et = some ei ∧ ki.size < 32768 ∧ ei.size < 32768 := by
 unfold mapT at h
 split at h
 ·rename_i size bytes kt' et zero hti
  split at h
  ·rename_i ki' ei' h1 h2
   split at h
   ·rename_i hb
    cases h
    obtain ⟨info, d, g1, g2, g3, g4, g5, g6⟩ := tiOf_parts (hT.T _ _ hti)
    refine ⟨et, ?_, h1, h2, hb⟩
    simp only at g5
    cases d <;> simp [tk] at g5
    rw [g2, g5.1, g5.2]
   ·cases h
  ·cases h
 ·cases h
def keyV (agg : Bool) (ds : List D) : Value := if agg then aggV ds else scV (ds.headD .nil)
structure KeyOk (P : Program) (kt : TypeId) (sh : List Sc) (agg : Bool) : Prop where
 check : ∀ (w : World) (ds : List D) (em : Bool), fitSc sh ds = true → (Instr.checkKey em 10000 kt (keyV agg ds)).run P w = .ok () w
 find : ∀ (w : World) (kd : List D) (es : List MapEntry) (kss : List (List D)), fitSc sh kd = true → All2 (fun en ks => en.key = keyV agg ks ∧ fitSc sh ks = true) es kss →
  ∃ r, (Instr.findKey kt (keyV agg kd) es).run P w = .ok r w ∧ ((r = none ∧ ∀ ks ∈ kss, eqDs kd ks = false) ∨ ∃ (i : Nat) (en : MapEntry) (ks : List D), r = some (i, en.val) ∧ es[i]? = some en ∧ kss[i]? = some ks ∧ eqDs kd ks = true ∧ ∀ (j : Nat) ks', j < i → kss[j]? = some ks' → eqDs kd ks' = false)
theorem eqD_iff {k : Sc} {a b : D} (ha : fitSc [k] [a] = true) (hb : fitSc [k] [b] = true) : eqD a b = true ↔ a = b := by
 cases k <;> cases a <;> simp only [fitSc, Bool.and_eq_true, decide_eq_true_eq, Bool.false_eq_true, and_true] at ha <;>
  cases b <;> simp only [fitSc, Bool.and_eq_true, decide_eq_true_eq, Bool.false_eq_true, and_true] at hb <;> simp [eqD]
 rw [ha, hb]; simp
theorem fit_cons {k : Sc} {sh : List Sc} {d : D} {ds : List D} (h : fitSc (k :: sh) (d :: ds) = true) : fitSc [k] [d] = true ∧ fitSc sh ds = true := by
 cases k <;> cases d <;> simp only [fitSc, Bool.and_eq_true, decide_eq_true_eq, Bool.false_eq_true, and_true] at h ⊢ <;> simp_all
theorem eqDs_iff : ∀ {sh : List Sc} {xs ys : List D}, fitSc sh xs = true → fitSc sh ys = true → (eqDs xs ys = true ↔ xs = ys)
 | [], [], [], _, _ => by simp [eqDs]
 | k :: sh, x :: xs, y :: ys, h1, h2 => by
  obtain ⟨a1, a2⟩ := fit_cons h1
  obtain ⟨b1, b2⟩ := fit_cons h2
  simp only [eqDs, Bool.and_eq_true, eqD_iff a1 b1, eqDs_iff a2 b2, List.cons.injEq]
 | [], _ :: _, _, h, _ => by cases h
 | [], [], _ :: _, _, h => by cases h
 | k :: _, [], _, h, _ => by cases k <;> cases h
 | k :: _, _ :: _, [], _, h => by cases k <;> cases h
theorem findAsking_spec {P : Program} {kt : TypeId} {sh : List Sc} (hE : EqOk P kt sh) (kd : List D) (hk : fitSc sh kd = true) : ∀ (es : List MapEntry) (kss : List (List D)) (i : Nat), All2 (fun en ks => en.key = keyV true ks ∧ fitSc sh ks = true) es kss →
  ∃ r, (Instr.findAsking kt (keyV true kd) es i).run P w = .ok r w ∧ ((r = none ∧ ∀ ks ∈ kss, eqDs kd ks = false) ∨ ∃ (n : Nat) (en : MapEntry) (ks : List D), r = some (i + n, en.val) ∧ es[n]? = some en ∧ kss[n]? = some ks ∧ eqDs kd ks = true ∧ ∀ (j : Nat) ks', j < n → kss[j]? = some ks' → eqDs kd ks' = false)
 | [], [], i, _ => ⟨none, rfl, .inl ⟨rfl, by simp⟩⟩
 | en :: es, ks :: kss, i, h => by
  have he := hE.equal w kd ks hk h.1.2
  have hkey : en.key = aggV ks := h.1.1
  simp only [Instr.findAsking, Sem.run_bind, hkey, keyV, if_true, he, Result.andThen_ok]
  cases hq : eqDs kd ks with
  | true => exact ⟨some (i, en.val), rfl, .inr ⟨0, en, ks, rfl, rfl, rfl, hq, by simp⟩⟩
  | false =>
   obtain ⟨r, h1, h2⟩ := findAsking_spec hE kd hk es kss (i + 1) h.2
   simp only [keyV, if_true] at h1
   refine ⟨r, h1, ?_⟩
   rcases h2 with ⟨h2, h3⟩ | ⟨n, en', ks', g1, g2, g3, g4, g5⟩
   ·exact .inl ⟨h2, by simp [hq]; exact h3⟩
   ·refine .inr ⟨n + 1, en', ks', by rw [g1]; congr 2; omega, by simpa using g2, by simpa using g3, g4, fun j k' hj hk' => ?_⟩
    cases j with
    | zero => simp only [List.getElem?_cons_zero, Option.some.injEq] at hk'; subst hk'; exact hq
    | succ j => exact g5 j k' (by omega) (by simpa using hk')
theorem findNow_spec' {d : TypeDesc} {sh : List Sc} (hd : ∀ (a b : List D), fitSc sh a = true → fitSc sh b = true → Instr.sameNow d (keyV false a) (keyV false b) = some (eqDs a b)) (kd : List D) (hk : fitSc sh kd = true) :
  ∀ (es : List MapEntry) (kss : List (List D)) (i : Nat), All2 (fun en ks => en.key = keyV false ks ∧ fitSc sh ks = true) es kss →
  ∃ r, Instr.findNow d (keyV false kd) es i = some r ∧ ((r = none ∧ ∀ ks ∈ kss, eqDs kd ks = false) ∨ ∃ (n : Nat) (en : MapEntry) (ks : List D), r = some (i + n, en.val) ∧ es[n]? = some en ∧ kss[n]? = some ks ∧ eqDs kd ks = true ∧ ∀ (j : Nat) ks', j < n → kss[j]? = some ks' → eqDs kd ks' = false)
 | [], [], i, _ => ⟨none, rfl, .inl ⟨rfl, by simp⟩⟩
 | en :: es, ks :: kss, i, h => by
  have he := hd kd ks hk h.1.2
  have hkey : en.key = keyV false ks := h.1.1
  simp only [Instr.findNow, hkey, he]
  cases hq : eqDs kd ks with
  | true => exact ⟨some (i, en.val), rfl, .inr ⟨0, en, ks, rfl, rfl, rfl, hq, by simp⟩⟩
  | false =>
   obtain ⟨r, h1, h2⟩ := findNow_spec' hd kd hk es kss (i + 1) h.2
   refine ⟨r, h1, ?_⟩
   rcases h2 with ⟨h2, h3⟩ | ⟨n, en', ks', g1, g2, g3, g4, g5⟩
   ·exact .inl ⟨h2, by simp [hq]; exact h3⟩
   ·refine .inr ⟨n + 1, en', ks', by rw [g1]; congr 2; omega, by simpa using g2, by simpa using g3, g4, fun j k' hj hk' => ?_⟩
    cases j with
    | zero => simp only [List.getElem?_cons_zero, Option.some.injEq] at hk'; subst hk'; exact hq
    | succ j => exact g5 j k' (by omega) (by simpa using hk')
theorem keyOk {P : Program} (hT : Tabs P cfg) {kt : TypeId} {ki : TI} (hi : cfg.ti kt = some ki) {sh : List Sc} (hs : keySc cfg kt = some sh) : KeyOk P kt sh ki.kind.agg := by
 have hsc : ∀ (d : TypeDesc) (k : Sc), P.underlying kt = some d → (∀ x y : D, fitSc [k] [x] = true → fitSc [k] [y] = true → Instr.sameNow d (scV x) (scV y) = some (eqD x y)) → (∀ (w : World) (x : D) (em : Bool), fitSc [k] [x] = true → (Instr.checkKey em 10000 kt (scV x)).run P w = .ok () w) →
   KeyOk P kt [k] false := by
  intro d k hu hs hc
  have one : ∀ {ds : List D}, fitSc [k] ds = true → ∃ x, ds = [x] := by
   intro ds h
   match ds, h with
   | [x], _ => exact ⟨x, rfl⟩
   | [], h => cases k <;> cases h
   | x :: y :: r, h => have := (fit_cons h).2; cases this
  refine ⟨fun w ds em h => ?_, fun w kd es kss hk hall => ?_⟩
  ·obtain ⟨x, rfl⟩ := one h
   exact hc w x em h
  ·obtain ⟨r, h1, h2⟩ := findNow_spec' (d := d) (sh := [k]) (fun x y hx hy => by
    obtain ⟨x, rfl⟩ := one hx
    obtain ⟨y, rfl⟩ := one hy
    have := hs x y hx hy
    simp only [keyV, Bool.false_eq_true, if_false, List.headD_cons, eqDs, Bool.and_true]
    exact this) kd hk es kss 0 hall
   refine ⟨r, run_findKey hu h1, ?_⟩
   rcases h2 with h2 | ⟨n, en, ks, g1, g⟩
   ·exact .inl h2
   ·exact .inr ⟨n, en, ks, by rw [g1, Nat.zero_add], g⟩
 unfold keySc at hs
 rw [hi] at hs
 obtain ⟨info, d, g1, g2, g3, g4, g5, g6⟩ := tiOf_parts (hT.T _ _ hi)
 split at hs
 ·rename_i hk
  cases hs
  cases hk
  have hd := tk_int g5.symm
  subst hd
  refine hsc _ _ g2 (fun x y hx hy => ?_) (fun w x em hx => ?_)
  ·cases x <;> simp only [fitSc, Bool.and_eq_true, decide_eq_true_eq, Bool.false_eq_true, and_true] at hx
   cases y <;> simp only [fitSc, Bool.and_eq_true, decide_eq_true_eq, Bool.false_eq_true, and_true] at hy
   subst hx
   simp [scV, Instr.sameNow, eqD, hy]
  ·cases x <;> simp only [fitSc, Bool.and_eq_true, decide_eq_true_eq, Bool.false_eq_true, and_true] at hx
   rw [show (10000 : Nat) = 9999 + 1 from rfl]
   unfold Instr.checkKey
   simp [run_underlying g2, scV]
 ·rename_i hk
  cases hs
  cases hk
  have hd := tk_str g5.symm
  subst hd
  refine hsc _ _ g2 (fun x y hx hy => ?_) (fun w x em hx => ?_)
  ·cases x <;> simp only [fitSc, Bool.false_eq_true] at hx
   cases y <;> simp only [fitSc, Bool.false_eq_true] at hy
   rename_i l m
   simp only [scV, Instr.sameNow, eqD, Option.some.injEq]
   rw [Bool.eq_iff_iff, bytes_beq]
   simp
  ·cases x <;> simp only [fitSc, Bool.false_eq_true] at hx
   rw [show (10000 : Nat) = 9999 + 1 from rfl]
   unfold Instr.checkKey
   simp [run_underlying g2, scV]
 ·rename_i hk
  cases hs
  cases hk
  have hd := tk_bool g5.symm
  subst hd
  refine hsc _ _ g2 (fun x y hx hy => ?_) (fun w x em hx => ?_)
  ·cases x <;> simp only [fitSc, Bool.false_eq_true] at hx
   cases y <;> simp only [fitSc, Bool.false_eq_true] at hy
   simp [scV, Instr.sameNow, eqD]
  ·cases x <;> simp only [fitSc, Bool.false_eq_true] at hx
   rw [show (10000 : Nat) = 9999 + 1 from rfl]
   unfold Instr.checkKey
   simp [run_underlying g2, scV]
 ·rename_i fs _ _ _ hk
  cases hk
  have hE := hT.E _ _ hs
  refine ⟨fun w ds em h => hE.check w ds em h, fun w kd es kss hk hall => ?_⟩
  have hwide : (match P.underlying kt with | some (.array _ _) | some (.struct _) => true | _ => false) = true := by
   obtain ⟨fs, h⟩ := hE.struct
   rw [h]
  rw [run_findKey_eq w hwide]
  obtain ⟨r, h1, h2⟩ := findAsking_spec (w := w) hE kd hk es kss 0 hall
  refine ⟨r, h1, ?_⟩
  rcases h2 with h2 | ⟨n, en, ks, g1, g⟩
  ·exact .inl h2
  ·exact .inr ⟨n, en, ks, by rw [g1, Nat.zero_add], g⟩
 ·cases hs
theorem cells_dl : ∀ {ds : List D} {vs : List Value}, CellsRel w Z ds vs ↔ DL w Z vs ds
 | [], [] => Iff.rfl
 | d :: ds, v :: vs => and_congr Iff.rfl cells_dl
 | [], _ :: _ => Iff.rfl
 | _ :: _, [] => Iff.rfl
theorem shape_len {agg : Bool} {n : Nat} {v : Value} (h : shapeOk agg n v) : v.cells.toList.length = n := by
 unfold shapeOk at h
 split at h
 ·obtain ⟨cs, rfl, rfl⟩ := h; rfl
 ·rw [cells_of_isOne h.1, h.2]; rfl
theorem ents_len : ∀ {xs : List (List D)} {es : List MapEntry}, EntsRel w Z xs es → xs.length = es.length
 | [], [], _ => rfl
 | _ :: _, _ :: _, h => by simp [ents_len h.2]
theorem ents_get : ∀ {xs : List (List D)} {es : List MapEntry} {i : Nat} {en : MapEntry}, EntsRel w Z xs es → es[i]? = some en → ∃ x, xs[i]? = some x ∧ CellsRel w Z x (entCells en)
 | x :: xs, en :: es, 0, en', h, he => by
  simp only [List.getElem?_cons_zero, Option.some.injEq] at he
  subst he
  exact ⟨x, rfl, h.1⟩
 | x :: xs, en :: es, i + 1, en', h, he => by
  obtain ⟨y, h1, h2⟩ := ents_get (i := i) h.2 (by simpa using he)
  exact ⟨y, by simpa using h1, h2⟩
 | [], [], _, _, _, he => by simp at he
theorem ents_of_get : ∀ {xs : List (List D)} {es : List MapEntry}, xs.length = es.length → (∀ (i : Nat) x en, xs[i]? = some x → es[i]? = some en → CellsRel w Z x (entCells en)) → EntsRel w Z xs es
 | [], [], _, _ => trivial
 | x :: xs, en :: es, hl, h => ⟨h 0 x en rfl rfl, ents_of_get (by simpa using hl) fun i y e hy he => h (i + 1) y e (by simpa using hy) (by simpa using he)⟩
 | [], _ :: _, hl, _ => by simp at hl
 | _ :: _, [], hl, _ => by simp at hl
theorem ent_parts {agg : Bool} {n : Nat} {en : MapEntry} {x : List D} (hk : shapeOk agg n en.key) (h : CellsRel w Z x (entCells en)) : DL w Z en.key.cells.toList (x.take n) ∧ DL w Z en.val.cells.toList (x.drop n) := by
 have h1 := cells_dl.1 h
 unfold entCells at h1
 have hl := shape_len hk
 have hx : x.length = (en.key.cells.toList ++ en.val.cells.toList).length := h1.length.symm
 rw [← List.take_append_drop n x] at h1
 exact All2.split (by rw [hl, List.length_take, hx, List.length_append, hl]; omega) h1
theorem keyV_of {agg : Bool} {n : Nat} {sh : List Sc} {v : Value} {ds : List D} (hs : shapeOk agg n v) (hd : DL w Z v.cells.toList ds) (hf : fitSc sh ds = true) : v = keyV agg ds := by
 have hu := fit_uniq hf hd
 unfold shapeOk at hs
 split at hs
 ·obtain ⟨cs, rfl, _⟩ := hs
  simp only [keyV, if_true, aggV]
  congr 1
  apply Array.toList_inj.1
  exact hu
 ·obtain ⟨h1, rfl⟩ := hs
  rw [cells_of_isOne h1] at hu
  match ds, hu with
  | [d], hu =>
   simp only [List.map_cons, List.map_nil, List.cons.injEq, and_true] at hu
   simpa [keyV] using hu
theorem keyV_shape {agg : Bool} {n : Nat} {sh : List Sc} {ds : List D} (hf : fitSc sh ds = true) (hn : ds.length = n) (h1 : agg = false → n = 1) : shapeOk agg n (keyV agg ds) := by
 cases agg with
 | true => exact ⟨_, rfl, by simpa using hn⟩
 | false =>
  have := h1 rfl
  subst this
  match ds, hn with
  | [d], _ =>
   refine ⟨?_, rfl⟩
   match sh with
   | [] => cases hf
   | k :: sh => cases k <;> cases d <;> first | rfl | (simp [fitSc] at hf)
theorem scV_inj : ∀ {sh : List Sc} {xs ys : List D}, fitSc sh xs = true → fitSc sh ys = true → xs.map scV = ys.map scV → xs = ys
 | [], [], [], _, _, _ => rfl
 | k :: sh, x :: xs, y :: ys, h1, h2, h => by
  obtain ⟨a1, a2⟩ := fit_cons h1
  obtain ⟨b1, b2⟩ := fit_cons h2
  simp only [List.map_cons, List.cons.injEq] at h
  rw [scV_inj a2 b2 h.2]
  congr 1
  have h := h.1
  cases k <;> cases x <;> simp only [fitSc, Bool.and_eq_true, decide_eq_true_eq, Bool.false_eq_true, and_true] at a1 <;>
   cases y <;> simp only [fitSc, Bool.and_eq_true, decide_eq_true_eq, Bool.false_eq_true, and_true] at b1 <;> simp_all [scV]
 | [], _ :: _, _, h, _, _ => by cases h
 | [], [], _ :: _, _, h, _ => by cases h
 | k :: _, [], _, h, _, _ => by cases k <;> cases h
 | k :: _, _ :: _, [], _, h, _ => by cases k <;> cases h
def KeyAt (agg : Bool) (sh : List Sc) (en : MapEntry) (ks : List D) : Prop := en.key = keyV agg ks ∧ fitSc sh ks = true ∧ en.key.cells.toList = ks.map scV
theorem ents_keys {e : Nat} {sh : List Sc} {n : Nat} (hn : mKl e = n) : ∀ {xs : List (List D)} {es : List MapEntry}, EntsRel w Z xs es → (∀ en ∈ es, EntOk e en) → keysFit sh n xs = true →
  All2 (KeyAt (mKa e) sh) es (xs.map fun x => x.take n)
 | [], [], _, _, _ => trivial
 | x :: xs, en :: es, h, ho, hf => by
  simp only [keysFit, List.all_cons, Bool.and_eq_true] at hf
  have hk := (ho en (List.mem_cons_self ..)).1
  rw [hn] at hk
  have hp := (ent_parts hk h.1).1
  exact ⟨⟨keyV_of hk hp hf.1, hf.1, fit_uniq hf.1 hp⟩, ents_keys hn h.2 (fun en he => ho en (List.mem_cons_of_mem _ he)) hf.2⟩
theorem All2.perm {α β : Type} {R : α → β → Prop} {as as' : List α} (hp : as.Perm as') : ∀ {bs : List β}, All2 R as bs → ∃ bs', bs.Perm bs' ∧ All2 R as' bs' := by
 induction hp with
 | nil => intro bs h; cases bs with | nil => exact ⟨[], .refl _, trivial⟩ | cons _ _ => exact h.elim
 | cons x _ ih =>
  intro bs h
  cases bs with
  | nil => exact h.elim
  | cons b bs =>
   obtain ⟨bs', h1, h2⟩ := ih h.2
   exact ⟨b :: bs', h1.cons b, h.1, h2⟩
 | swap x y l =>
  intro bs h
  cases bs with
  | nil => exact h.elim
  | cons b bs =>
   cases bs with
   | nil => exact h.2.elim
   | cons c bs => exact ⟨c :: b :: bs, .swap .., h.2.1, h.1, h.2.2⟩
 | trans _ _ ih1 ih2 =>
  intro bs h
  obtain ⟨b1, h1, h2⟩ := ih1 h
  obtain ⟨b2, h3, h4⟩ := ih2 h2
  exact ⟨b2, h1.trans h3, h4⟩
theorem All2.get_left {α β : Type} {R : α → β → Prop} : ∀ {as : List α} {bs : List β} {j : Nat} {a : α}, All2 R as bs → as[j]? = some a → ∃ b, bs[j]? = some b ∧ R a b
 | [], [], _, _, _, h => by simp at h
 | x :: as, y :: bs, 0, a, h, hj => by simp only [List.getElem?_cons_zero, Option.some.injEq] at hj; subst hj; exact ⟨y, rfl, h.1⟩
 | x :: as, y :: bs, j + 1, a, h, hj => by
  obtain ⟨b, h1, h2⟩ := All2.get_left (j := j) h.2 (by simpa using hj)
  exact ⟨b, by simpa using h1, h2⟩
theorem pair_uniq {es : List MapEntry} (h : es.Pairwise fun a b => a.key ≠ b.key) {i j : Nat} {a b : MapEntry} (hi : es[i]? = some a) (hj : es[j]? = some b) (hk : a.key = b.key) : i = j := by
 have hp := List.pairwise_iff_getElem.1 h
 obtain ⟨h1, rfl⟩ := List.getElem?_eq_some_iff.1 hi
 obtain ⟨h2, rfl⟩ := List.getElem?_eq_some_iff.1 hj
 rcases Nat.lt_trichotomy i j with h | h | h
 ·exact absurd hk (hp i j h1 h2 h)
 ·exact h
 ·exact absurd hk.symm (hp j i h2 h1 h)
theorem findRow_spec (n : Nat) (kd : List D) : ∀ (xs : List (List D)),
  (findRow n kd xs = none ∧ ∀ ks ∈ xs.map (fun x => x.take n), eqDs kd ks = false) ∨ ∃ (i : Nat) (ks : List D), findRow n kd xs = some i ∧ (xs.map fun x => x.take n)[i]? = some ks ∧ eqDs kd ks = true ∧ ∀ (j : Nat) ks', j < i → (xs.map fun x => x.take n)[j]? = some ks' → eqDs kd ks' = false
 | [] => .inl ⟨rfl, by simp⟩
 | x :: xs => by
  simp only [findRow, List.map_cons]
  cases hq : eqDs kd (x.take n) with
  | true => exact .inr ⟨0, x.take n, by simp, rfl, hq, by simp⟩
  | false =>
   simp only [Bool.false_eq_true, if_false]
   rcases findRow_spec n kd xs with ⟨h1, h2⟩ | ⟨i, ks, h1, h2, h3, h4⟩
   ·exact .inl ⟨by rw [h1]; rfl, by simpa [hq] using h2⟩
   ·refine .inr ⟨i + 1, ks, by rw [h1]; rfl, by simpa using h2, h3, fun j k' hj hk' => ?_⟩
    cases j with
    | zero => simp only [List.getElem?_cons_zero, Option.some.injEq] at hk'; subst hk'; exact hq
    | succ j => exact h4 j k' (by omega) (by simpa using hk')
theorem find_row {P : Program} {kt : TypeId} {ki ei : TI} {sh : List Sc} (hK : KeyOk P kt sh ki.kind.agg) (h1 : ki.size < 32768) (h2 : ei.size < 32768) {xs : List (List D)} {es es' : List MapEntry} {clk : Nat} (hr : EntsRel w Z xs es') (hp : es'.Perm es) (ho : EntsOk (mcode ki ei) clk es)
  (hf : keysFit sh ki.size xs = true) {kd : List D} (hkd : fitSc sh kd = true) (hk1 : ki.kind.agg = false → kd.length = 1) :
  (findRow ki.size kd xs = none ∧ (Instr.findKey kt (keyV ki.kind.agg kd) es).run P w = .ok none w ∧ ∀ en ∈ es, en.key ≠ keyV ki.kind.agg kd) ∨
   ∃ i m x en, findRow ki.size kd xs = some m ∧ (Instr.findKey kt (keyV ki.kind.agg kd) es).run P w = .ok (some (i, en.val)) w ∧ xs[m]? = some x ∧ es'[m]? = some en ∧ es[i]? = some en ∧ kd = x.take ki.size ∧ en.key = keyV ki.kind.agg kd := by
 have hks := ents_keys (mode_kl h1 h2) hr (fun en he => ho.ok en (hp.mem_iff.1 he)) hf
 rw [mode_ka h2] at hks
 obtain ⟨ks', hperm, hks'⟩ := All2.perm hp hks
 have hcell : (keyV ki.kind.agg kd).cells.toList = kd.map scV := by
  cases hag : ki.kind.agg with
  | true => simp [keyV, aggV, Value.cells]
  | false =>
   match kd, hk1 hag with
   | [d], _ =>
    have h2 := keyV_shape (agg := false) (n := 1) hkd rfl (fun _ => rfl)
    rw [cells_of_isOne h2.1]
    simp [keyV]
 have huniq : ∀ en ks, KeyAt ki.kind.agg sh en ks → en.key = keyV ki.kind.agg kd → ks = kd := by
  intro en ks ⟨_, g2, g3⟩ h
  exact scV_inj g2 hkd (by rw [← g3, h, hcell])
 obtain ⟨r, g1, g2⟩ := hK.find w kd es ks' hkd (All2.mono (fun _ _ h => ⟨h.1, h.2.1⟩) hks')
 rcases g2 with ⟨rfl, f⟩ | ⟨i, en, ks, rfl, f2, f3, f4, _⟩
 ·refine .inl ⟨?_, g1, fun en he hkey => ?_⟩
  ·rcases findRow_spec ki.size kd xs with ⟨q1, _⟩ | ⟨i, ks, q1, q2, q3, _⟩
   ·exact q1
   ·rw [f ks (hperm.mem_iff.1 (List.mem_of_getElem? q2))] at q3; cases q3
  ·obtain ⟨i, hi⟩ := List.mem_iff_getElem?.1 he
   obtain ⟨ks, k1, k2⟩ := All2.get_left hks' hi
   have := huniq en ks k2 hkey
   subst this
   have := f ks (List.mem_of_getElem? k1)
   rw [(eqDs_iff hkd hkd).2 rfl] at this
   cases this
 ·refine .inr ?_
  obtain ⟨en2, k1, k2⟩ := hks'.get f3
  rw [f2] at k1
  cases k1
  have e1 : kd = ks := (eqDs_iff hkd k2.2.1).1 f4
  have hkey : en.key = keyV ki.kind.agg kd := by rw [k2.1, ← e1]
  obtain ⟨m0, hm0⟩ := List.mem_iff_getElem?.1 (hp.mem_iff.2 (List.mem_of_getElem? f2))
  obtain ⟨ks0, p1, p2⟩ := All2.get_left hks hm0
  have e2 := huniq en ks0 p2 hkey
  subst e2
  rcases findRow_spec ki.size ks0 xs with ⟨_, q2⟩ | ⟨m, ks1, q1, q2, q3, _⟩
  ·have := q2 ks0 (List.mem_of_getElem? p1)
   rw [(eqDs_iff hkd hkd).2 rfl] at this
   cases this
  ·obtain ⟨en3, p3, p4⟩ := hks.get q2
   have e3 : ks0 = ks1 := (eqDs_iff hkd p4.2.1).1 q3
   subst e3
   have hnd : es'.Pairwise fun a b => a.key ≠ b.key := (hp.pairwise_iff (fun h => Ne.symm h)).2 ho.nd
   have em : m0 = m := pair_uniq hnd hm0 p3 (by rw [hkey, p4.1])
   subst em
   rw [List.getElem?_map] at q2
   cases hx : xs[m0]? with
   | none => rw [hx] at q2; cases q2
   | some x =>
    rw [hx] at q2
    simp only [Option.map_some, Option.some.injEq] at q2
    exact ⟨i, m0, x, en, q1, g1, hx, hm0, f2, q2.symm, hkey⟩
theorem mapRows_spec (h : Rel K β ω Z s a w) {e : Nat} (hcod : ∀ e', (e' = e ∨ e' = unE e) → isMap e' = true ∧ isIt e' = false ∧ oE e' = e) {c : C} {u : Value} {xs : List (List D)} {s' : St} (hcu : CRel K β Z s a w c u) (hx : (mapRows e c).exec s = some (xs, s')) :
  s' = s ∧ ((u = .map none ∧ xs = []) ∨ ∃ b, u = .map (some b) ∧ ∃ (es : Array MapEntry) (clk : Nat) (es' : List MapEntry), w.heap[b]? = some (.map es clk) ∧ EntsOk e clk es.toList ∧ EntsRel w Z xs es' ∧ es'.Perm es.toList) := by
 have hof : ∀ {e' b xs}, (e' = e ∨ e' = unE e) → MapAt w Z e' xs b → ∃ (es : Array MapEntry) (clk : Nat) (es' : List MapEntry), w.heap[b]? = some (.map es clk) ∧ EntsOk e clk es.toList ∧ EntsRel w Z xs es' ∧ es'.Perm es.toList := by
  intro e' b xs hee g
  obtain ⟨es, clk, es', g1, g2, g3, g4, _⟩ := (MapAt.mu (hcod e' hee).2.1).1 g
  rw [(hcod e' hee).2.2] at g2
  exact ⟨es, clk, es', g1, g2, g3, g4⟩
 unfold mapRows at hx
 split at hx
 ·obtain ⟨rfl, rfl⟩ := exec_ret hx
  exact ⟨rfl, .inl ⟨hcu, rfl⟩⟩
 ·obtain ⟨_, s1, h1, hx2⟩ := exec_bind' hx
  obtain ⟨hee, hs1⟩ := exec_need h1
  subst hs1
  obtain ⟨he, hi, _⟩ := hcod _ hee
  obtain ⟨rfl, rfl⟩ := exec_ret hx2
  obtain ⟨b, g1, _, g2⟩ := (DRel.mp_iff he).1 hcu
  exact ⟨rfl, .inr ⟨b, by rw [g1, mpV_map hi], hof hee g2⟩⟩
 ·rename_i r j hv cv e' k ys
  simp only [Prog.exec] at hx
  obtain ⟨_, s1, h1, hx2⟩ := exec_bind' hx
  obtain ⟨⟨hhv, hee⟩, hs1⟩ := exec_need h1
  subst hs1
  obtain ⟨he, hi, _⟩ := hcod _ hee
  obtain ⟨b, g1, _, _, g4⟩ := (CRel.bor_mp he).1 hcu
  split at hx2
  ·rename_i e2 zs hat
   obtain ⟨hz, hs2⟩ := exec_ret hx2
   subst hz; subst hs2
   obtain ⟨f1, ys', f2, _⟩ := g4 hhv (by rw [hat]; simp)
   rw [hat] at f2
   rcases f2 with f2 | f2 <;> cases f2
   obtain ⟨b2, e1, e2⟩ := h.ownMap he hat
   rw [f1, Option.some.injEq] at e1
   rw [mpV_inj e1.symm] at e2
   exact ⟨rfl, .inr ⟨b, by rw [g1, mpV_map hi], hof hee e2⟩⟩
  ·rename_i e2 zs hat
   obtain ⟨hz, hs2⟩ := exec_ret hx2
   subst hz; subst hs2
   obtain ⟨f1, ys', f2, _⟩ := g4 hhv (by rw [hat]; simp)
   rw [hat] at f2
   rcases f2 with f2 | f2 <;> cases f2
   obtain ⟨u2, e1, hcu2⟩ := h.cell (at_cells hat (by simp))
   obtain ⟨b2, e3, _, e4⟩ := (DRel.mp_iff he).1 hcu2
   rw [f1] at e1
   cases e1
   rw [mpV_inj e3.symm] at e4
   exact ⟨rfl, .inr ⟨b, by rw [g1, mpV_map hi], hof hee e4⟩⟩
  ·simp [Prog.exec] at hx2
 ·simp [Prog.exec] at hx
theorem key_val {kv : SV} {u : Value} {kd : List D} {sh : List Sc} {agg : Bool} (hv : SVRel (CRel K β Z s a w) u kv) (hk : kv.key = some kd) (hf : fitSc sh kd = true) (ha : kv.isAgg = agg) : u = keyV agg kd ∧ (agg = false → kd.length = 1) := by
 unfold SV.key at hk
 split at hk
 ·rename_i cs hcs
  cases kv with
  | one c =>
   simp only [SV.asCells, Option.some.injEq] at hcs
   subst hcs
   subst ha
   cases c <;> simp [datas] at hk
   rename_i x
   subst hk
   have hd : DL w Z u.cells.toList [x] := by rw [cells_of_isOne hv.1]; exact ⟨hv.2, trivial⟩
   exact ⟨keyV_of (n := 1) ⟨hv.1, rfl⟩ hd hf, fun _ => rfl⟩
  | agg ds =>
   simp only [SV.asCells, Option.some.injEq] at hcs
   subst hcs
   subst ha
   obtain ⟨ws, rfl, hall⟩ := hv
   refine ⟨keyV_of (n := ws.size) ⟨ws, rfl, rfl⟩ (?_ : DL w Z ws.toList kd) hf, fun h => by cases h⟩
   have : ∀ {cs : List C} {us : List Value} {ds : List D}, datas cs = some ds → All2 (fun u c => CRel K β Z s a w c u) us cs → DL w Z us ds := by
    intro cs
    induction cs with
    | nil => intro us ds h hall; simp [datas] at h; subst h; cases us with | nil => trivial | cons _ _ => exact hall.elim
    | cons c cs ih =>
     intro us ds h hall
     cases us with
     | nil => exact hall.elim
     | cons u us =>
      cases c with
      | d x =>
       simp only [datas] at h
       split at h
       ·rename_i ds' h1
        cases h
        exact ⟨hall.1, ih h1 hall.2⟩
       ·cases h
      | _ => simp [datas] at h
   exact this hk hall
  | tup x => simp [SV.asCells] at hcs
  | undef => simp [SV.asCells] at hcs
 ·cases hk
theorem setObj_chg {b : Nat} {o o' : Obj} (hb : w.heap[b]? = some o) : Chg w { w with heap := w.heap.setIfInBounds b o' } b ∧ ({ w with heap := w.heap.setIfInBounds b o' } : World).heap[b]? = some o' := by
 have hlt : b < w.heap.size := (Array.getElem?_eq_some_iff.1 hb).1
 exact ⟨⟨rfl, rfl, rfl, by simp, fun c hc => by simp [Ne.symm hc]⟩, by simp [hlt]⟩
theorem val_rel {agg : Bool} {n : Nat} {v : Value} {ds : List D} (hs : shapeOk agg n v) (hd : DL w Z v.cells.toList ds) : TRel (CRel K β Z s a w) v (agg, ds.map .d) := by
 unfold shapeOk at hs
 unfold TRel
 cases agg with
 | true => obtain ⟨cs, rfl, _⟩ := hs; exact ⟨cs, rfl, DL.map hd⟩
 | false =>
  obtain ⟨h1, rfl⟩ := hs
  rw [cells_of_isOne h1] at hd
  match ds, hd with
  | [d], hd => exact ⟨.d d, rfl, h1, hd.1⟩
theorem val_rel1 {agg : Bool} {n : Nat} {v : Value} {ds : List D} {x : SV} {s1 s2 : St} (hs : shapeOk agg n v) (hd : DL w Z v.cells.toList ds) (he : (entV agg ds).exec s1 = some (x, s2)) : s2 = s1 ∧ SVRel (CRel K β Z s a w) v x ∧ (∀ c ∈ x.cells, NoOwn c) := by
 unfold shapeOk at hs
 unfold entV at he
 cases agg with
 | true =>
  obtain ⟨rfl, rfl⟩ := exec_ret he
  obtain ⟨cs, rfl, _⟩ := hs
  exact ⟨rfl, ⟨cs, rfl, DL.map hd⟩, by simp [SV.cells, NoOwn]⟩
 | false =>
  obtain ⟨h1, rfl⟩ := hs
  rw [cells_of_isOne h1] at hd
  match ds, hd, he with
  | [d], hd, he =>
   obtain ⟨rfl, rfl⟩ := exec_ret he
   exact ⟨rfl, ⟨h1, hd.1⟩, by simp [SV.cells, NoOwn]⟩
theorem zero_shape (w0 : World) {agg : Bool} {n : Nat} {z : List D} {v : Value} (hv : reflectAll v.cells.toList = some z) (ha : isAggV v = agg) (hl : z.length = n) : shapeOk agg n v := by
 have hzd : DL w0 (fun _ => True) v.cells.toList z := reflectAll_rel' hv
 have hlen := hzd.length
 cases v with
 | agg cs => subst ha; exact ⟨cs, rfl, by simp only [Value.cells] at hlen; simp at hlen; omega⟩
 | _ =>
  subst ha
  simp only [Value.cells] at hv hlen
  simp only [isAggV]
  refine ⟨?_, by simp at hlen; omega⟩
  first
  | rfl
  | (simp [reflectAll, reflect] at hv)
theorem asCells_shape {u : Value} {v : SV} {cs : List C} {n : Nat} (hv : SVRel (CRel K β Z s a w) u v) (hc : v.asCells = some cs) (hn : cs.length = n) : shapeOk v.isAgg n u := by
 cases v with
 | one c =>
  simp only [SV.asCells, Option.some.injEq] at hc
  subst hc
  exact ⟨hv.1, by simpa using hn.symm⟩
 | agg ds =>
  simp only [SV.asCells, Option.some.injEq] at hc
  subst hc
  obtain ⟨ws, rfl, h⟩ := hv
  exact ⟨ws, rfl, by have := h.length; simp at this; omega⟩
 | tup x => simp [SV.asCells] at hc
 | undef => simp [SV.asCells] at hc
theorem getD_of {α : Type} {l : List α} {i : Nat} {x d : α} (h : l[i]? = some x) : l.getD i d = x := by
 rw [List.getD_eq_getElem?_getD, h]; rfl
theorem nd_set {es : List MapEntry} {i : Nat} {en : MapEntry} (h : es.Pairwise fun a b => a.key ≠ b.key) (hi : i < es.length) (hkk : ∀ x, es[i]? = some x → en.key = x.key) : (es.set i en).Pairwise fun a b => a.key ≠ b.key := by
 have key : (es.set i en).map (·.key) = es.map (·.key) := by
  apply List.ext_getElem?
  intro n
  rw [List.getElem?_map, List.getElem?_map, List.getElem?_set]
  split
  ·rename_i hin
   subst hin
   rw [List.getElem?_eq_getElem hi]
   simp [hi, hkk _ (List.getElem?_eq_getElem hi)]
  ·rfl
 have h2 : (es.map (·.key)).Pairwise fun a b => a ≠ b := List.pairwise_map.2 h
 rw [← key] at h2
 exact List.pairwise_map.1 h2
theorem ents_set {e clk : Nat} {xs : List (List D)} {es : List MapEntry} {i : Nat} {en : MapEntry} {y : List D} (ho : EntsOk e clk es) (hr : EntsRel w Z xs es) (hi : i < es.length) (hen : EntOk e en) (hb : en.born = i) (hkk : ∀ x, es[i]? = some x → en.key = x.key) (hc : CellsRel w Z y (entCells en)) :
  EntsOk e clk (es.set i en) ∧ EntsRel w Z (xs.set i y) (es.set i en) := by
 refine ⟨⟨fun x hx => ?_, fun j x hx => ?_, by rw [List.length_set]; exact ho.clk, nd_set ho.nd hi hkk⟩, ents_of_get (by simp [ents_len hr]) fun j x e' hx he' => ?_⟩
 ·rcases List.mem_or_eq_of_mem_set hx with hx | rfl
  ·exact ho.ok x hx
  ·exact hen
 ·rw [List.getElem?_set] at hx
  split at hx
  ·rename_i hij
   subst hij
   simp only [hi, if_true, Option.some.injEq] at hx
   subst hx
   exact hb
  ·exact ho.born j x hx
 ·rw [List.getElem?_set] at hx he'
  split at hx
  ·rename_i hij
   subst hij
   rw [if_pos rfl] at he'
   split at hx
   ·rw [if_pos hi] at he'
    cases hx; cases he'; exact hc
   ·cases hx
  ·rename_i hij
   rw [if_neg hij] at he'
   obtain ⟨x', h1, h2⟩ := ents_get hr he'
   rw [hx] at h1
   cases h1
   exact h2
theorem ents_push {e clk : Nat} {xs : List (List D)} {es : List MapEntry} {en : MapEntry} {y : List D} (ho : EntsOk e clk es) (hr : EntsRel w Z xs es) (hen : EntOk e en) (hb : en.born = clk) (hnew : ∀ x ∈ es, x.key ≠ en.key) (hc : CellsRel w Z y (entCells en)) :
  EntsOk e (clk + 1) (es ++ [en]) ∧ EntsRel w Z (xs ++ [y]) (es ++ [en]) := by
 have hl := ents_len hr
 refine ⟨⟨fun x hx => ?_, fun j x hx => ?_, by rw [List.length_append, ho.clk]; rfl, List.pairwise_append.2 ⟨ho.nd, List.pairwise_singleton .., fun x hx y hy => by rw [List.mem_singleton.1 hy]; exact hnew x hx⟩⟩, ents_of_get (by simp [hl]) fun j x e' hx he' => ?_⟩
 ·rcases List.mem_append.1 hx with hx | hx
  ·exact ho.ok x hx
  ·simp only [List.mem_singleton] at hx; subst hx; exact hen
 ·rw [List.getElem?_append] at hx
  split at hx
  ·exact ho.born j x hx
  ·rename_i hj
   have hj0 : j - es.length = 0 := by
    have := (List.getElem?_eq_some_iff.1 hx).1
    simp at this; omega
   rw [hj0] at hx
   simp only [List.getElem?_cons_zero, Option.some.injEq] at hx
   subst hx
   rw [hb, ho.clk]; omega
 ·rw [List.getElem?_append] at hx he'
  split at hx
  ·rw [if_pos (by omega)] at he'
   obtain ⟨x', h1, h2⟩ := ents_get hr he'
   rw [hx] at h1
   cases h1
   exact h2
  ·rw [if_neg (by omega)] at he'
   have hj0 : j - xs.length = 0 := by
    have := (List.getElem?_eq_some_iff.1 hx).1
    simp at this; omega
   rw [hj0] at hx
   rw [show j - es.length = 0 by omega] at he'
   simp only [List.getElem?_cons_zero, Option.some.injEq] at hx he'
   subst hx; subst he'
   exact hc
theorem ents_mono {w' : World} {xs : List (List D)} {es : List MapEntry} (hZ : ∀ b, Z b → w'.heap[b]? = w.heap[b]? ∧ Z b) (h : EntsRel w Z xs es) : EntsRel w' Z xs es := EntsRel.mono hZ xs es h
theorem DL.mono' {w' : World} {Z' : Nat → Prop} (hZ : ∀ b, Z b → w'.heap[b]? = w.heap[b]? ∧ Z' b) {us : List Value} {ds : List D} (h : DL w Z us ds) : DL w' Z' us ds := All2.mono (fun _ _ hr => DRel.mono hZ _ _ hr) h
theorem row_rel {us vs : List Value} {kd vd : List D} (h1 : DL w Z us kd) (h2 : DL w Z vs vd) {en : MapEntry} (hk : en.key.cells.toList = us) (hv : en.val.cells.toList = vs) : CellsRel w Z (kd ++ vd) (entCells en) := by
 rw [cells_dl, entCells, hk, hv]
 exact All2.append h1 h2
theorem keyV_dl {agg : Bool} {sh : List Sc} {kd : List D} (hf : fitSc sh kd = true) (h1 : agg = false → kd.length = 1) : DL w Z (keyV agg kd).cells.toList kd := by
 cases agg with
 | true => exact (fit_DL hf : DL w Z (kd.map scV) kd)
 | false =>
  match kd, h1 rfl with
  | [d], _ =>
   have h2 := keyV_shape (agg := false) (n := 1) hf rfl (fun _ => rfl)
   rw [cells_of_isOne h2.1]
   exact (fit_DL hf : DL w Z [scV d] [d])
theorem same_scal {d : D} {k : Sc} (h : fitSc [k] [d] = true) (n : Nat) : Instr.sameBits n (scV d) (scV d) = true := by
 cases k <;> cases d <;> simp [fitSc] at h <;> simp [scV, Instr.sameBits, bytes_beq]
theorem same_list : ∀ {sh : List Sc} {ds : List D} (n : Nat), fitSc sh ds = true → (((ds.map scV).zip (ds.map scV)).all fun (x, y) => Instr.sameBits n x y) = true
 | [], [], _, _ => rfl
 | k :: sh, d :: ds, n, h => by
  obtain ⟨h1, h2⟩ := fit_cons h
  simp only [List.map_cons, List.zip_cons_cons, List.all_cons, Bool.and_eq_true]
  exact ⟨same_scal h1 n, same_list n h2⟩
 | [], _ :: _, _, h => by cases h
 | k :: _, [], _, h => by cases k <;> cases h
theorem same_self {agg : Bool} {sh : List Sc} {kd : List D} (hf : fitSc sh kd = true) (h1 : agg = false → kd.length = 1) : Instr.sameBits 10000 (keyV agg kd) (keyV agg kd) = true := by
 cases agg with
 | true =>
  rw [show (10000 : Nat) = 9999 + 1 from rfl]
  simp only [keyV, if_true, aggV, Instr.sameBits, Bool.and_eq_true]
  exact ⟨by simp, by simpa using same_list 9999 hf⟩
 | false =>
  match kd, h1 rfl with
  | [d], _ =>
   match sh with
   | [] => cases hf
   | k :: sh => exact same_scal (fit_cons hf).1 10000
theorem gom {P : Program} {b clk : Nat} {es : Array MapEntry} (hb : w.heap[b]? = some (.map es clk)) : (getObj b).run P w = .ok (.map es clk) w := Go.MapKept.run_getObj_map hb
theorem som {P : Program} {b clk : Nat} {es : Array MapEntry} {o : Obj} (hb : w.heap[b]? = some (.map es clk)) : (setObj b o).run P w = .ok () { w with heap := w.heap.setIfInBounds b o } := Go.MapKept.run_setObj_map o hb
section
variable (hT : Tabs K.P cfg)
include hT
theorem makeMap_yield (h : Rel K β ω Z s a w) {t : TypeId} {dst : Nat} {o : Oper} (ho : o.op = .makeMap t none) {v : SV} {s' : St} (he : (aval cfg o.op dst).exec s = some (v, s')) :
  Yield K s' a dst ((execOp a.eval o).run K.P w) v := by
 rw [ho] at he
 simp only [aval, makeMapP] at he
 split at he
 ·rename_i kt ki ei hm
  obtain ⟨_, _, _, _, hb1, hb2⟩ := mapT_parts hT hm
  obtain ⟨hv, hs⟩ := exec_ret he
  subst hs
  rw [hv]
  have hcod : Coded ki ei (unIf (cfg.un.contains dst) (mcode ki ei)) := coded hb1 hb2 (by cases cfg.un.contains dst; exact .inl rfl; exact .inr rfl)
  have hi := hcod.it
  clear hv he
  generalize (unIf (cfg.un.contains dst) (mcode ki ei)) = ec at *
  obtain ⟨r1, k1, f1, g1⟩ := h.newObj (.map #[] 0) (.tmp dst, some 0)
  have hM : MapAt (w.alloc (.map #[] 0)) Z ec [] w.heap.size := (MapAt.mu hcod.it).2 ⟨#[], 0, [], g1, ⟨by simp, by simp, rfl, .nil⟩, trivial, .refl _, fun _ => rfl⟩
  have hcu : ∀ (s : St), CRel K β Z s a (w.alloc (.map #[] 0)) (.own ec []) (.map (some w.heap.size)) := fun s => (CRel.own_mp hcod.mp).2 ⟨_, (mpV_map hi _).symm, hM⟩
  refine ⟨.map (some w.heap.size), w.alloc (.map #[] 0), β, _, Z, ?_, r1, ⟨rfl, hcu _⟩, ?_⟩
  ·simp [execOp, ho, Instr.makeMap]
  ·intro j c x hc hx
   have hj : j = 0 := by
    simp only [SV.cells] at hc
    cases j with
    | zero => rfl
    | succ j => simp at hc
   subst hj
   simp only [SV.cells, List.getElem?_cons_zero, Option.some.injEq] at hc
   simp only [flat, List.getElem?_cons_zero, Option.some.injEq] at hx
   subst hc; subst hx
   refine ⟨hcu _, fun e' xs b q1 q2 => ?_⟩
   cases q1
   simp only [blkOf, Option.some.injEq] at q2
   subst q2
   exact ⟨by simp, ⟨#[], 0, g1⟩, f1⟩
 ·simp [Prog.exec] at he
theorem lookup_yield (h : Rel K β ω Z s a w) {t : TypeId} {x ix : Operand} {ok : Bool} {dst : Nat} {o : Oper} (ho : o.op = .lookup t x ix ok) {v : SV} {s' : St} (he : (aval cfg o.op dst).exec s = some (v, s')) :
  Yield K s' a dst ((execOp a.eval o).run K.P w) v := by
 rw [ho] at he
 simp only [aval] at he
 obtain ⟨c, s1, h1, he2⟩ := exec_bind' he
 obtain ⟨hs1, o1, r1, hno1⟩ := ev1_spec h h1
 rw [hs1] at he2
 obtain ⟨kv, s2, h2, he3⟩ := exec_bind' he2
 obtain ⟨hs2, hkv, hno2, hnu2⟩ := ev_spec h h2
 rw [hs2] at he3
 unfold lookupP at he3
 split at he3
 ·rename_i kt ki ei hm
  obtain ⟨et, hu, hki, hei, hb1, hb2⟩ := mapT_parts hT hm
  split at he3
  ·rename_i sh kd z hsc hkd hz
   obtain ⟨_, s3, h3, he4⟩ := exec_bind' he3
   obtain ⟨⟨hfit, hkl, hka, hzl, hg⟩, hs3⟩ := exec_need h3
   rw [hs3] at he4
   obtain ⟨xs, s4, h4, he5⟩ := exec_bind' he4
   obtain ⟨hs4, hrows⟩ := mapRows_spec h (fun e' he' => ⟨(coded hb1 hb2 he').mp, (coded hb1 hb2 he').it, (coded hb1 hb2 he').oe⟩) r1 h4
   rw [hs4] at he5
   obtain ⟨_, s5, h5, he6⟩ := exec_bind' he5
   obtain ⟨hkf, hs5⟩ := exec_need h5
   rw [hs5] at he6
   have hK := keyOk hT hki hsc
   obtain ⟨hku, hk1⟩ := key_val hkv hkd hfit hka
   obtain ⟨zv, hzv, hrf, hza⟩ := run_zeroValue' (w := w) (hT.T _ _ hei) hz
   have hzd : DL w Z zv.cells.toList z := reflectAll_rel' hrf
   have hzs : shapeOk ei.kind.agg ei.size zv := zero_shape w hrf hza hzl
   have key : ∃ (vv : Value) (ds : List D), shapeOk ei.kind.agg ei.size vv ∧ DL w Z vv.cells.toList ds ∧ ds = rowOr ki.size xs z (findRow ki.size kd xs) ∧
     (execOp a.eval o).run K.P w = .ok (.value (if ok then .tuple #[vv, .bool (findRow ki.size kd xs).isSome] else vv)) w := by
    rcases hrows with ⟨e1, rfl⟩ | ⟨b, e1, es, clk, es', g1, g2, g3, gp⟩
    ·refine ⟨zv, z, hzs, hzd, by simp [findRow, rowOr], ?_⟩
     have hfk : (Instr.findKey kt (keyV ki.kind.agg kd) []).run K.P w = .ok none w := by
      obtain ⟨r, q1, q2⟩ := hK.find w kd [] [] hfit trivial
      rcases q2 with ⟨rfl, _⟩ | ⟨i, en, ks, _, q3, _⟩
      ·exact q1
      ·simp at q3
     simp only [execOp, ho, Instr.lookup, e1, hku, Sem.run_bind, run_underlying hu, Result.andThen_ok, Sem.run_pure, Array.isEmpty_empty, hK.check w kd true hfit, hfk, hzv, findRow, Option.isSome_none]
    ·have hfr := find_row hK hb1 hb2 g3 gp g2 hkf hfit hk1
     have hck : (Instr.checkKey es.isEmpty 10000 kt (keyV ki.kind.agg kd)).run K.P w = .ok () w := hK.check w kd _ hfit
     rcases hfr with ⟨q1, q2, _⟩ | ⟨i, m, x, en, q1, q2, q3, q4', q4, q5, _⟩
     ·refine ⟨zv, z, hzs, hzd, by rw [q1]; rfl, ?_⟩
      simp only [execOp, ho, Instr.lookup, e1, hku, Sem.run_bind, run_underlying hu, Result.andThen_ok, Sem.run_pure, gom g1, hck, q2, hzv, q1, Option.isSome_none]
     ·have hen := g2.ok en (List.mem_of_getElem? q4)
      obtain ⟨x', p1, p2⟩ := ents_get g3 q4'
      rw [q3] at p1
      cases p1
      obtain ⟨hk, hv⟩ := (entOk_iff hb1 hb2).1 hen
      obtain ⟨_, p4⟩ := ent_parts hk p2
      refine ⟨en.val, x.drop ki.size, hv, p4, by rw [q1]; simp only [rowOr, getD_of q3], ?_⟩
      rw [q1]
      simp only [execOp, ho, Instr.lookup, e1, hku, Sem.run_bind, run_underlying hu, Result.andThen_ok, Sem.run_pure, gom g1, hck, q2]
      rfl
   obtain ⟨vv, ds, k1, k2, k3, k4⟩ := key
   rw [← k3] at he6
   cases ok with
   | true =>
    obtain ⟨hx, hs6⟩ := exec_ret he6
    rw [hx, hs6]
    refine Yield.same h k4 ⟨#[vv, .bool (findRow ki.size kd xs).isSome], rfl, val_rel k1 k2, ?_, trivial⟩ ?_
    ·exact ⟨_, rfl, rfl, rfl⟩
    ·intro c hc
     simp only [SV.cells, List.flatMap_cons, List.flatMap_nil, List.append_nil, List.mem_append, List.mem_map, List.mem_singleton] at hc
     rcases hc with ⟨d, _, rfl⟩ | rfl <;> simp [NoOwn]
   | false =>
    obtain ⟨hs6, p1, p2⟩ := val_rel1 (K := K) (β := β) (s := s) (a := a) k1 k2 he6
    rw [hs6]
    exact Yield.same h k4 p1 p2
  ·simp [Prog.exec] at he3
 ·simp [Prog.exec] at he3
theorem mapUpdate_spec (h : Rel K β ω Z s a w) {t : TypeId} {c : C} {um uk ux : Value} {kv vv : SV} {y : Unit} {s' : St} (hcm : CRel K β Z s a w c um) (hkv : SVRel (CRel K β Z s a w) uk kv) (hvv : SVRel (CRel K β Z s a w) ux vv)
  (hno : ∀ c ∈ vv.cells, NoOwn c) (he : (mapUpdateP cfg t c kv vv).exec s = some (y, s')) : ∃ w' β' ω' Z', (Instr.mapUpdate t um uk ux).run K.P w = .ok () w' ∧ Rel K β' ω' Z' s' a w' := by
 unfold mapUpdateP at he
 split at he
 ·rename_i kt ki ei hm
  obtain ⟨et, hu, hki, hei, hb1, hb2⟩ := mapT_parts hT hm
  split at he
  ·rename_i sh kd vc hsc hkd hvc
   obtain ⟨_, s1, h1, he2⟩ := exec_bind' he
   obtain ⟨⟨hfit, hkl, hka, hvl, hva⟩, hs1⟩ := exec_need h1
   rw [hs1] at he2
   obtain ⟨vd, s2, h2, he3⟩ := exec_bind' he2
   obtain ⟨hcc, hall⟩ := asCells_rel hvv hvc
   obtain ⟨ω1, Z1, r1, k1, p1⟩ := toDs_spec vc _ ω Z s s2 vd h hall (fun c hc => hno c (by rw [hcc]; exact hc)) h2
   have hcm1 := k1.crel h.zin (fun e xs b h1 h2 => by
    cases c with
    | own => exfalso; clear he2; simp [Prog.exec] at he3
    | _ => cases h1) hcm
   split at he3
   ·rename_i r j hv0 cv0 e k0 xs0
    simp only [Prog.exec] at he3
    obtain ⟨_, s3, h3, he4⟩ := exec_bind' he3
    obtain ⟨⟨hhv, hra, hee⟩, hs3⟩ := exec_need h3
    rw [hs3] at he4
    split at he4
    ·rename_i e' xs hat
     obtain ⟨_, s4, h4, he5⟩ := exec_bind' he4
     obtain ⟨hkf, hs4⟩ := exec_need h4
     rw [hs4] at he5
     simp only [putR, Prog.exec, Option.some.injEq, Prod.mk.injEq] at he5
     obtain ⟨_, rfl⟩ := he5
     have hcod := coded hb1 hb2 hee
     have hmp := hcod.mp
     have hi := hcod.it
     obtain ⟨b, e1, _, _, g4⟩ := (CRel.bor_mp hmp).1 hcm1
     rw [mpV_map hi] at e1
     obtain ⟨f1, ys, f2, _⟩ := g4 hhv (alive_of_own hat)
     rw [hat] at f2
     rcases f2 with f2 | f2 <;> cases f2
     obtain ⟨b2, q1, g0⟩ := r1.ownMap hmp hat
     rw [f1, Option.some.injEq] at q1
     rw [mpV_inj q1.symm] at g0
     obtain ⟨es, clk, es', g1, g2, g3, gp, gu⟩ := (MapAt.mu hi).1 g0
     rw [hcod.oe] at g2
     have hK := keyOk hT hki hsc
     obtain ⟨hku, hk1⟩ := key_val hkv hkd hfit hka
     have hvs : shapeOk ei.kind.agg ei.size ux := by rw [← hva]; exact asCells_shape hvv hvc hvl
     have hks : shapeOk ki.kind.agg ki.size uk := by
      rw [hku]
      exact keyV_shape hfit hkl (fun hf => by have := hk1 hf; omega)
     have hen : ∀ bn, EntOk (mcode ki ei) { key := uk, val := ux, born := bn } := fun bn => by
      exact (entOk_iff hb1 hb2).2 ⟨hks, hvs⟩
     have hkdl : DL w Z1 uk.cells.toList kd := by rw [hku]; exact keyV_dl hfit hk1
     have hrow : ∀ bn, CellsRel w Z1 (kd ++ vd) (entCells { key := uk, val := ux, born := bn }) := fun bn => row_rel hkdl p1 rfl rfl
     have hnz : ¬ Z1 b := (r1.ωok _ _ (r1.own r j _ _ _ b hra (at_cells hat (by simp)) f1 (mpV_blk ..)).1).1
     have fin : ∀ (es1 : Array MapEntry) (clk' : Nat) (es2 : List MapEntry), EntsOk (mcode ki ei) clk' es1.toList → EntsRel w Z1 (putRow (isUn e) ki.size kd vd xs) es2 → es2.Perm es1.toList → (isUn e = false → es2 = es1.toList) →
       ∃ w', w' = { w with heap := w.heap.setIfInBounds b (.map es1 clk') } ∧ Rel K β ω1 Z1 (s2.set r { (s2 r) with cv := (s2 r).cv + 1, v := (s2 r).v.setCell j (.own e (putRow (isUn e) ki.size kd vd xs)) }) a w' := by
      intro es1 clk' es2 hok hrel hperm hun
      obtain ⟨hchg, hhere⟩ := setObj_chg (o' := .map es1 clk') g1
      refine ⟨_, rfl, r1.setMap hmp hat hra f1 hchg ((MapAt.mu hi).2 ⟨es1, clk', es2, hhere, by rw [hcod.oe]; exact hok, ?_, hperm, hun⟩)⟩
      exact ents_mono (fun b' hb' => ⟨hchg.other b' (fun e => hnz (e ▸ hb')), hb'⟩) hrel
     have hwk : ∀ {es : List MapEntry} {xs : List (List D)} (en : MapEntry), EntsRel w Z1 xs es → ∀ row, CellsRel w Z1 row (entCells en) → EntsRel w Z1 (xs ++ [row]) (es ++ [en]) := by
      intro es
      induction es with
      | nil => intro xs en h row hr; cases xs with | nil => exact ⟨hr, trivial⟩ | cons _ _ => exact h.elim
      | cons y es ih => intro xs en h row hr; cases xs with | nil => exact h.elim | cons x xs => exact ⟨h.1, ih en h.2 row hr⟩
     rcases find_row hK hb1 hb2 g3 gp g2 hkf hfit hk1 with ⟨q1, q2, q3⟩ | ⟨i, m, x, en, q1, q2, q3, q4', q4, q5, q6⟩
     ·have hok : EntsOk (mcode ki ei) (clk + 1) (es.toList ++ [{ key := uk, val := ux, born := clk }]) := by
       refine ⟨fun x hx => ?_, fun j x hx => ?_, by rw [List.length_append, g2.clk]; rfl, List.pairwise_append.2 ⟨g2.nd, List.pairwise_singleton .., fun x hx y hy => by rw [List.mem_singleton.1 hy]; show x.key ≠ uk; rw [hku]; exact q3 x hx⟩⟩
       ·rcases List.mem_append.1 hx with hx | hx
        ·exact g2.ok x hx
        ·rw [List.mem_singleton.1 hx]; exact hen clk
       ·rw [List.getElem?_append] at hx
        split at hx
        ·exact g2.born j x hx
        ·rename_i hj
         have hj0 : j - es.toList.length = 0 := by
          have := (List.getElem?_eq_some_iff.1 hx).1
          simp at this; omega
         rw [hj0] at hx
         simp only [List.getElem?_cons_zero, Option.some.injEq] at hx
         subst hx
         show clk = j
         rw [g2.clk]; omega
      obtain ⟨es3, z1, z2, z3⟩ : ∃ es3 : List MapEntry, EntsRel w Z1 (putRow (isUn e) ki.size kd vd xs) es3 ∧ es3.Perm (es.toList ++ [{ key := uk, val := ux, born := clk }]) ∧ (isUn e = false → es3 = es.toList ++ [{ key := uk, val := ux, born := clk }]) := by
       cases hun : isUn e with
       | false => exact ⟨es' ++ [{ key := uk, val := ux, born := clk }], by simp only [putRow, updRow, q1]; exact hwk _ g3 _ (hrow clk), gp.append_right _, fun _ => by rw [gu hun]⟩
       | true =>
        have hin : ∀ {xs : List (List D)} {es : List MapEntry}, EntsRel w Z1 xs es → ∃ es3 : List MapEntry, EntsRel w Z1 (insAt ki.size kd (kd ++ vd) xs) es3 ∧ es3.Perm (es ++ [{ key := uk, val := ux, born := clk }]) := by
         intro xs
         induction xs with
         | nil => intro es h; cases es with | nil => exact ⟨[{ key := uk, val := ux, born := clk }], ⟨hrow clk, trivial⟩, .refl _⟩ | cons _ _ => exact h.elim
         | cons x xs ih =>
          intro es h
          cases es with
          | nil => exact h.elim
          | cons y es =>
           simp only [insAt]
           split
           ·exact ⟨{ key := uk, val := ux, born := clk } :: y :: es, ⟨hrow clk, h⟩, (List.perm_append_singleton _ _).symm⟩
           ·obtain ⟨es3, f1, f2⟩ := ih h.2
            exact ⟨y :: es3, ⟨h.1, f1⟩, f2.cons y⟩
        obtain ⟨es3, f1, f2⟩ := hin g3
        exact ⟨es3, by simp only [putRow, insRow, q1]; exact f1, f2.trans (gp.append_right _), fun h => by cases h⟩
      obtain ⟨w', hw', hR⟩ := fin (es.push { key := uk, val := ux, born := clk }) (clk + 1) es3 (by rw [Array.toList_push]; exact hok) z1 (by rw [Array.toList_push]; exact z2) (fun hu' => by rw [Array.toList_push]; exact z3 hu')
      refine ⟨w', β, ω1, Z1, ?_, hR⟩
      rw [e1, hw']
      have q2' : (Instr.findKey kt uk es.toList).run K.P w = .ok none w := by rw [hku]; exact q2
      have hck : (Instr.checkKey false 10000 kt uk).run K.P w = .ok () w := by rw [hku]; exact hK.check w kd false hfit
      simp only [Instr.mapUpdate, Sem.run_bind, run_underlying hu, Result.andThen_ok, gom g1, hck, q2', som g1]
     ·have hil : i < es.toList.length := (List.getElem?_eq_some_iff.1 q4).1
      have hml : m < es'.length := (List.getElem?_eq_some_iff.1 q4').1
      have hkey : en.key = uk := by rw [q6, hku]
      have hmod : (es.modify i fun e => { e with key := uk, val := ux }).toList = es.toList.set i { key := uk, val := ux, born := en.born } := by
       rw [Array.toList_modify]
       apply List.ext_getElem?
       intro n
       rw [List.getElem?_modify, List.getElem?_set]
       by_cases hin : i = n
       ·subst hin
        simp only [if_true, hil, q4, Option.map_eq_map, Option.map_some]
       ·simp only [hin, if_false, Option.map_eq_map, Option.map_id']
      have hok : EntsOk (mcode ki ei) clk (es.toList.set i { key := uk, val := ux, born := en.born }) := by
       refine ⟨fun x hx => ?_, fun j x hx => ?_, by rw [List.length_set]; exact g2.clk, nd_set g2.nd hil fun x hx => by rw [q4] at hx; cases hx; exact hkey.symm⟩
       ·rcases List.mem_or_eq_of_mem_set hx with hx | rfl
        ·exact g2.ok x hx
        ·exact hen _
       ·rw [List.getElem?_set] at hx
        split at hx
        ·rename_i hij
         subst hij
         simp only [hil, if_true, Option.some.injEq] at hx
         subst hx
         exact g2.born i en q4
        ·exact g2.born j x hx
      have hrel : EntsRel w Z1 (xs.set m (kd ++ vd)) (es'.set m { key := uk, val := ux, born := en.born }) := by
       refine ents_of_get (by simp [ents_len g3]) fun j x e' hx he' => ?_
       rw [List.getElem?_set] at hx he'
       split at hx
       ·rename_i hij
        subst hij
        rw [if_pos rfl, if_pos hml] at he'
        split at hx
        ·cases hx; cases he'; exact hrow _
        ·cases hx
       ·rename_i hij
        rw [if_neg hij] at he'
        obtain ⟨x', h1, h2⟩ := ents_get g3 he'
        rw [hx] at h1
        cases h1
        exact h2
      classical
      have hset : ∀ (l : List MapEntry) (n : Nat), l.Pairwise (fun a b => a.key ≠ b.key) → l[n]? = some en → l.set n { key := uk, val := ux, born := en.born } = l.map fun z => if z.key = en.key then { key := uk, val := ux, born := en.born } else z := by
       intro l n hnd hn
       apply List.ext_getElem?
       intro j
       rw [List.getElem?_set, List.getElem?_map]
       by_cases hnj : n = j
       ·subst hnj
        rw [if_pos rfl, if_pos (List.getElem?_eq_some_iff.1 hn).1, hn, Option.map_some, if_pos rfl]
       ·rw [if_neg hnj]
        cases hj : l[j]? with
        | none => rfl
        | some z =>
         simp only [Option.map_some]
         rw [if_neg fun hzk => hnj (pair_uniq hnd hn hj hzk.symm)]
      have hnd' : es'.Pairwise fun a b => a.key ≠ b.key := (gp.pairwise_iff (fun h => Ne.symm h)).2 g2.nd
      obtain ⟨w', hw', hR⟩ := fin (es.modify i fun e => { e with key := uk, val := ux }) clk (es'.set m { key := uk, val := ux, born := en.born }) (by rw [hmod]; exact hok) (by cases hun : isUn e <;> simp only [putRow, updRow, insRow, q1] <;> exact hrel) (by rw [hmod, hset _ _ g2.nd q4, hset _ _ hnd' q4']; exact gp.map _) (fun hu' => by
       rw [hmod]
       have := gu hu'
       subst this
       rw [pair_uniq hnd' q4' q4 rfl])
      refine ⟨w', β, ω1, Z1, ?_, hR⟩
      rw [e1, hw']
      have q2' : (Instr.findKey kt uk es.toList).run K.P w = .ok (some (i, en.val)) w := by rw [hku]; exact q2
      have hck : (Instr.checkKey false 10000 kt uk).run K.P w = .ok () w := by rw [hku]; exact hK.check w kd false hfit
      have hesi : es[i]? = some en := by simpa using q4
      have hstay : (Instr.keyThatStays uk uk).run K.P w = .ok uk w := by
       have hsb : Instr.sameBits 10000 uk uk = true := by rw [hku]; exact same_self hfit hk1
       simp [Instr.keyThatStays, hsb]
      simp only [Instr.mapUpdate, Sem.run_bind, run_underlying hu, Result.andThen_ok, gom g1, hck, q2', hesi, Option.map_some, Option.getD_some, hkey, hstay, som g1]
    ·simp [Prog.exec] at he4
   ·simp [Prog.exec] at he3
  ·simp [Prog.exec] at he
 ·simp [Prog.exec] at he
omit hT in
theorem own_map (h : Rel K β ω Z s a w) {ki ei : TI} {r : Res} {j hv cv e k : Nat} {xs0 : List (List D)} {um : Value} (hcm : CRel K β Z s a w (.bor r j hv cv e k xs0) um) (hhv : (s r).hv = hv) (hra : r.isArg = false) (hee : e = mcode ki ei) (hi : isIt (mcode ki ei) = false) (hun : isUn (mcode ki ei) = false)
  {e' : Nat} {xs : List (List D)} (hat : (s r).at j = .own e' xs) : e' = mcode ki ei ∧ ∃ b es clk, um = .map (some b) ∧ hdr K β a w r j = some (.map (some b)) ∧ w.heap[b]? = some (.map es clk) ∧ EntsOk (mcode ki ei) clk es.toList ∧ EntsRel w Z xs es.toList ∧ ¬ Z b := by
 have hmp : isMap e = true := by rw [hee]; exact mode_map
 have hi' : isIt e = false := by rw [hee]; exact hi
 obtain ⟨b, e1, _, _, g4⟩ := (CRel.bor_mp hmp).1 hcm
 obtain ⟨f1, ys, f2, _⟩ := g4 hhv (alive_of_own hat)
 rw [hat] at f2
 rcases f2 with f2 | f2 <;> cases f2
 obtain ⟨b2, q1, g0⟩ := h.ownMap hmp hat
 rw [f1, Option.some.injEq] at q1
 rw [mpV_inj q1.symm] at g0
 obtain ⟨es, clk, g1, g2, g3⟩ := (MapAt.mp hi' (by rw [hee]; exact hun)).1 g0
 exact ⟨hee, b, es, clk, by rw [e1, mpV_map hi'], by rw [f1, mpV_map hi'], g1, by rw [← hee]; exact g2, g3, (h.ωok _ _ (h.own r j _ _ _ b hra (at_cells hat (by simp)) f1 (mpV_blk ..)).1).1⟩
omit hT in
theorem set_map (h : Rel K β ω Z s a w) {ki ei : TI} (hi : isIt (mcode ki ei) = false) (hun : isUn (mcode ki ei) = false) {r : Res} {j : Nat} {xs ys : List (List D)} (hat : (s r).at j = .own (mcode ki ei) xs) (hra : r.isArg = false) {b clk clk' : Nat} {es es' : Array MapEntry} (hh : hdr K β a w r j = some (.map (some b)))
  (g1 : w.heap[b]? = some (.map es clk)) (hnz : ¬ Z b) (hok : EntsOk (mcode ki ei) clk' es'.toList) (hrel : EntsRel w Z ys es'.toList) :
  Rel K β ω Z (s.set r { (s r) with cv := (s r).cv + 1, v := (s r).v.setCell j (.own (mcode ki ei) ys) }) a { w with heap := w.heap.setIfInBounds b (.map es' clk') } ∧ ∀ b, Z b → ({ w with heap := w.heap.setIfInBounds b (.map es' clk') } : World).heap[b]? = ({ w with heap := w.heap.setIfInBounds b (.map es' clk') } : World).heap[b]? := by
 obtain ⟨hchg, hhere⟩ := setObj_chg (o' := .map es' clk') g1
 exact ⟨h.setMap mode_map hat hra (by rw [hh, mpV_map hi]) hchg ((MapAt.mp hi hun).2 ⟨es', clk', hhere, hok, ents_mono (fun b' hb' => ⟨hchg.other b' (fun e => hnz (e ▸ hb')), hb'⟩) hrel⟩), fun _ _ => rfl⟩
omit hT in
theorem modify_toList {es : Array MapEntry} {i : Nat} {en : MapEntry} (f : MapEntry → MapEntry) (h : es.toList[i]? = some en) : (es.modify i f).toList = es.toList.set i (f en) := by
 have hil : i < es.toList.length := (List.getElem?_eq_some_iff.1 h).1
 rw [Array.toList_modify]
 apply List.ext_getElem?
 intro n
 rw [List.getElem?_modify, List.getElem?_set]
 by_cases hin : i = n
 ·subst hin
  simp only [if_true, hil, h, Option.map_eq_map, Option.map_some]
 ·simp only [hin, if_false, Option.map_eq_map, Option.map_id']
theorem mapEntry_yield (h : Rel K β ω Z s a w) {t : TypeId} {m k : Operand} {dst : Nat} {o : Oper} (ho : o.op = .mapEntry t m k) {v : SV} {s' : St} (he : (aval cfg o.op dst).exec s = some (v, s')) :
  Yield K s' a dst ((execOp a.eval o).run K.P w) v := by
 rw [ho] at he
 simp only [aval] at he
 obtain ⟨c, s1, h1, he2⟩ := exec_bind' he
 obtain ⟨hs1, o1, r1, hno1⟩ := ev1_spec h h1
 rw [hs1] at he2
 obtain ⟨kv, s2, h2, he3⟩ := exec_bind' he2
 obtain ⟨hs2, hkv, hno2, hnu2⟩ := ev_spec h h2
 rw [hs2] at he3
 unfold mapEntryP at he3
 split at he3
 ·rename_i kt ki ei hm
  obtain ⟨et, hu, hki, hei, hb1, hb2⟩ := mapT_parts hT hm
  split at he3
  ·rename_i sh kd z hsc hkd hz
   obtain ⟨_, s3, h3, he4⟩ := exec_bind' he3
   obtain ⟨⟨hfit, hkl, hka, hzl, hg⟩, hs3⟩ := exec_need h3
   rw [hs3] at he4
   split at he4
   ·rename_i r j hv0 cv0 e k0 xs0
    simp only [Prog.exec] at he4
    obtain ⟨_, s5, h5, he5⟩ := exec_bind' he4
    obtain ⟨⟨hhv, hra, hee⟩, hs5⟩ := exec_need h5
    rw [hs5] at he5
    split at he5
    ·rename_i e' xs hat
     obtain ⟨_, s6, h6, he6⟩ := exec_bind' he5
     obtain ⟨hkf, hs6⟩ := exec_need h6
     rw [hs6] at he6
     obtain ⟨_, s7, h7, he7⟩ := exec_bind' he6
     simp only [putR, Prog.exec, Option.some.injEq, Prod.mk.injEq] at h7
     obtain ⟨_, h7⟩ := h7
     obtain ⟨hx, hs8⟩ := exec_ret he7
     obtain ⟨hee', b, es, clk, e1, f1, g1, g2, g3, hnz⟩ := own_map h r1 hhv hra hee (mode_it hb1 hb2) (mode_un hb1 hb2) hat
     subst hee'
     have hK := keyOk hT hki hsc
     obtain ⟨hku, hk1⟩ := key_val hkv hkd hfit hka
     obtain ⟨zv, hzv, hrf, hza⟩ := run_zeroValue' (w := w) (hT.T _ _ hei) hz
     have hzd : DL w Z zv.cells.toList z := reflectAll_rel' hrf
     have hzs : shapeOk ei.kind.agg ei.size zv := zero_shape w hrf hza hzl
     have hks : shapeOk ki.kind.agg ki.size (keyV ki.kind.agg kd) := keyV_shape hfit hkl (fun hf => by have := hk1 hf; omega)
     have hkdl : DL w Z (keyV ki.kind.agg kd).cells.toList kd := keyV_dl hfit hk1
     have hck : (Instr.checkKey false 10000 kt (keyV ki.kind.agg kd)).run K.P w = .ok () w := hK.check w kd false hfit
     have hZ : ∀ (o' : Obj) b', Z b' → ({ w with heap := w.heap.setIfInBounds b o' } : World).heap[b']? = w.heap[b']? ∧ Z b' := fun o' b' hb' => ⟨(setObj_chg (o' := o') g1).1.other b' (fun e => hnz (e ▸ hb')), hb'⟩
     have hout : ∀ (w' : World) (vv : Value) (ds : List D) (n : Nat), (∀ b, Z b → w'.heap[b]? = w.heap[b]? ∧ Z b) → shapeOk ei.kind.agg ei.size vv → DL w Z vv.cells.toList ds →
       Rel K β ω Z s' a w' → (execOp a.eval o).run K.P w = .ok (.value (.tuple #[vv, goInt n])) w' → v = .tup [(ei.kind.agg, ds.map .d), (false, [.d (.int .i64 n)])] → Yield K s' a dst ((execOp a.eval o).run K.P w) v := by
      intro w' vv ds n hZ' hs hd hR hrun hvv
      rw [hvv]
      refine ⟨_, w', β, ω, Z, hrun, hR, Pend.of_noOwn ⟨#[vv, goInt n], rfl, val_rel hs (DL.mono' hZ' hd), ?_, trivial⟩ ?_⟩
      ·exact ⟨_, rfl, rfl, rfl⟩
      ·intro c hc
       simp only [SV.cells, List.flatMap_cons, List.flatMap_nil, List.append_nil, List.mem_append, List.mem_map, List.mem_singleton] at hc
       rcases hc with ⟨d, _, rfl⟩ | rfl <;> simp [NoOwn]
     rcases find_row hK hb1 hb2 g3 (.refl _) g2 hkf hfit hk1 with ⟨q1, q2, q2n⟩ | ⟨i, m, x, en, q1, q2, q3, q4', q4, q5, _⟩
     ·have hen : EntOk (mcode ki ei) { key := keyV ki.kind.agg kd, val := zv, born := clk } := (entOk_iff hb1 hb2).2 ⟨hks, hzs⟩
      obtain ⟨p2, p3⟩ := ents_push g2 g3 hen rfl q2n (row_rel hkdl hzd rfl rfl)
      obtain ⟨hR, _⟩ := set_map (es' := es.push { key := keyV ki.kind.agg kd, val := zv, born := clk }) (clk' := clk + 1) h (mode_it hb1 hb2) (mode_un hb1 hb2) hat hra f1 g1 hnz (by rw [Array.toList_push]; exact p2) (by rw [Array.toList_push]; exact p3)
      rw [q1] at h7 hx
      have hclk : clk = xs.length := by rw [g2.clk, ents_len g3]
      refine hout _ zv z clk (hZ _) hzs hzd (by rw [hs8, ← h7]; exact hR) ?_ (by rw [hx, hclk]; rfl)
      simp only [execOp, ho, Instr.mapEntry, e1, hku, Sem.run_bind, run_underlying hu, Result.andThen_ok, Sem.run_pure, gom g1, hck, q2, hzv, som g1]
     ·have hmi : m = i := pair_uniq g2.nd q4' q4 rfl
      subst hmi
      have hen := g2.ok en (List.mem_of_getElem? q4)
      obtain ⟨hk, hv⟩ := (entOk_iff hb1 hb2).1 hen
      obtain ⟨x', p1, p2⟩ := ents_get g3 q4
      rw [q3] at p1
      cases p1
      obtain ⟨p3, p4⟩ := ent_parts hk p2
      have hkey : en.key = keyV ki.kind.agg kd := by rw [keyV_of hk p3 (by rw [← q5]; exact hfit), q5]
      have hmod : (es.modify m fun e => { e with key := keyV ki.kind.agg kd }).toList = es.toList := by
       rw [modify_toList _ q4]
       apply List.ext_getElem?
       intro n
       rw [List.getElem?_set]
       split
       ·rename_i hin
        subst hin
        rw [if_pos (List.getElem?_eq_some_iff.1 q4).1, q4, ← hkey]
       ·rfl
      obtain ⟨hR, _⟩ := set_map (ys := xs) (es' := es.modify m fun e => { e with key := keyV ki.kind.agg kd }) (clk' := clk) h (mode_it hb1 hb2) (mode_un hb1 hb2) hat hra f1 g1 hnz (by rw [hmod]; exact g2) (by rw [hmod]; exact g3)
      rw [q1] at h7 hx
      refine hout _ en.val (x.drop ki.size) m (hZ _) hv p4 (by rw [hs8, ← h7]; exact hR) ?_ (by rw [hx]; simp only [rowOr, getD_of q3, Option.getD_some])
      have hesi : es[m]? = some en := by simpa using q4
      have hstay : (Instr.keyThatStays (keyV ki.kind.agg kd) (keyV ki.kind.agg kd)).run K.P w = .ok (keyV ki.kind.agg kd) w := by
       simp [Instr.keyThatStays, same_self hfit hk1]
      simp only [execOp, ho, Instr.mapEntry, e1, hku, Sem.run_bind, run_underlying hu, Result.andThen_ok, Sem.run_pure, gom g1, hck, q2, hesi, Option.map_some, Option.getD_some, hkey, hstay, som g1, g2.born m en q4]
    ·simp [Prog.exec] at he5
   ·simp [Prog.exec] at he4
  ·simp [Prog.exec] at he3
 ·simp [Prog.exec] at he3
theorem entryStore_spec (h : Rel K β ω Z s a w) {t : TypeId} {c st : C} {um us ux : Value} {vv : SV} {y : Unit} {s' : St} (hcm : CRel K β Z s a w c um) (hst : CRel K β Z s a w st us) (hvv : SVRel (CRel K β Z s a w) ux vv)
  (hno : ∀ c ∈ vv.cells, NoOwn c) (he : (entryStoreP cfg t c st vv).exec s = some (y, s')) : ∃ w' β' ω' Z', (Instr.entryStore t um us ux).run K.P w = .ok () w' ∧ Rel K β' ω' Z' s' a w' := by
 unfold entryStoreP at he
 split at he
 ·rename_i kt ki ei kk n vc hm hvc
  obtain ⟨et, hu, hki, hei, hb1, hb2⟩ := mapT_parts hT hm
  obtain ⟨_, s1, h1, he2⟩ := exec_bind' he
  obtain ⟨⟨hvl, hva⟩, hs1⟩ := exec_need h1
  rw [hs1] at he2
  obtain ⟨vd, s2, h2, he3⟩ := exec_bind' he2
  obtain ⟨hcc, hall⟩ := asCells_rel hvv hvc
  obtain ⟨ω1, Z1, r1, k1, p1⟩ := toDs_spec vc _ ω Z s s2 vd h hall (fun c hc => hno c (by rw [hcc]; exact hc)) h2
  split at he3
  ·rename_i r j hv0 cv0 e k0 xs0
   have hcm1 := k1.crel h.zin (c := .bor r j hv0 cv0 e k0 xs0) (by simp) hcm
   simp only [Prog.exec] at he3
   obtain ⟨_, s3, h3, he4⟩ := exec_bind' he3
   obtain ⟨⟨hhv, hra, hee⟩, hs3⟩ := exec_need h3
   rw [hs3] at he4
   split at he4
   ·rename_i e' xs hat
    obtain ⟨_, s4, h4, he5⟩ := exec_bind' he4
    obtain ⟨⟨hn0, hn1⟩, hs4⟩ := exec_need h4
    rw [hs4] at he5
    simp only [putR, Prog.exec, Option.some.injEq, Prod.mk.injEq] at he5
    obtain ⟨_, rfl⟩ := he5
    obtain ⟨hee', b, es, clk, e1, f1, g1, g2, g3, hnz⟩ := own_map r1 hcm1 hhv hra hee (mode_it hb1 hb2) (mode_un hb1 hb2) hat
    subst hee'
    have e2 : us = .int kk n := hst
    have hl := ents_len g3
    have hil : n.toNat < es.toList.length := by omega
    obtain ⟨en, hen0⟩ : ∃ en, es.toList[n.toNat]? = some en := ⟨_, List.getElem?_eq_getElem hil⟩
    have hen := g2.ok en (List.mem_of_getElem? hen0)
    obtain ⟨hk, hv⟩ := (entOk_iff hb1 hb2).1 hen
    obtain ⟨x, q3, p2⟩ := ents_get g3 hen0
    obtain ⟨p3, p4⟩ := ent_parts hk p2
    have hvs : shapeOk ei.kind.agg ei.size ux := by rw [← hva]; exact asCells_shape hvv hvc hvl
    have hen2 : EntOk (mcode ki ei) { en with val := ux } := (entOk_iff hb1 hb2).2 ⟨hk, hvs⟩
    obtain ⟨o1, o2⟩ := ents_set (en := { en with val := ux }) (y := x.take ki.size ++ vd) g2 g3 hil hen2 (show en.born = _ from g2.born _ en hen0) (fun x hx => by rw [hen0] at hx; cases hx; rfl) (row_rel p3 p1 rfl rfl)
    obtain ⟨hR, _⟩ := set_map (es' := es.modify n.toNat fun e => { e with val := ux }) (clk' := clk) r1 (mode_it hb1 hb2) (mode_un hb1 hb2) hat hra f1 g1 hnz (by rw [modify_toList _ hen0]; exact o1) (by rw [modify_toList _ hen0]; exact o2)
    refine ⟨_, β, ω1, Z1, ?_, by rw [getD_of q3]; exact hR⟩
    have hfi : es.findIdx? (fun e => (e.born : Int) == n) = some n.toNat := by
     have hsz : n.toNat < es.size := by simpa using hil
     rw [Array.findIdx?_eq_some_iff_getElem]
     refine ⟨hsz, ?_, fun j hj => ?_⟩
     ·have : es[n.toNat] = en := by
       have := Array.getElem?_eq_getElem hsz
       rw [← Array.getElem?_toList, hen0] at this
       exact (Option.some.inj this).symm
      rw [this, g2.born _ _ hen0]
      simp; omega
     ·have hj2 : es.toList[j]? = some es[j] := by rw [Array.getElem?_toList, Array.getElem?_eq_getElem]
      rw [g2.born _ _ hj2]
      simp; omega
    rw [e1, e2]
    simp only [Instr.entryStore, Sem.run_bind, Result.andThen_ok, gom g1, Go.asInt, asIntOf, Sem.run_pure, hfi, som g1]
   ·simp [Prog.exec] at he4
  ·simp [Prog.exec] at he3
 ·simp [Prog.exec] at he
theorem lenMap_spec (h : Rel K β ω Z s a w) {t : TypeId} {c : C} {u : Value} {v : SV} {s' : St} (hcu : CRel K β Z s a w c u) (he : (lenMapP cfg t c).exec s = some (v, s')) :
  s' = s ∧ ∃ n : Nat, v = dint .i64 n ∧ (u = .map none ∧ n = 0 ∨ ∃ b es clk, u = .map (some b) ∧ w.heap[b]? = some (.map es clk) ∧ n = es.size) ∧ ∃ kt et, K.P.underlying t = some (.map kt et) := by
 unfold lenMapP at he
 split at he
 ·rename_i kt ki ei hm
  obtain ⟨et, hu, hki, hei, hb1, hb2⟩ := mapT_parts hT hm
  obtain ⟨xs, s1, h1, he2⟩ := exec_bind' he
  obtain ⟨hs1, hr⟩ := mapRows_spec h (fun e' he' => ⟨(coded hb1 hb2 he').mp, (coded hb1 hb2 he').it, (coded hb1 hb2 he').oe⟩) hcu h1
  obtain ⟨hx, hs2⟩ := exec_ret he2
  refine ⟨by rw [hs2, hs1], xs.length, hx, ?_, kt, et, hu⟩
  rcases hr with ⟨rfl, rfl⟩ | ⟨b, rfl, es, clk, es', g1, g2, g3, gp⟩
  ·exact .inl ⟨rfl, rfl⟩
  ·exact .inr ⟨b, es, clk, rfl, g1, by rw [ents_len g3, gp.length_eq]; simp⟩
 ·simp [Prog.exec] at he
end
end
end Go.Vs
namespace Go.Vs
section
variable {K : Ctx} {β : Key → Option Nat} {ω : Nat → Option Holder} {Z : Nat → Prop} {s : St} {a : Act} {w : World} {cfg : Cfg} (hT : Tabs K.P cfg)
theorem move_spec (h : Rel K β ω Z s a w) {x : Operand} {dst : Nat} {o : Oper} (ho : o.op = .move x) {v : SV} {s' : St} (he : (aval cfg o.op dst).exec s = some (v, s')) :
  Yield K s' a dst ((execOp a.eval o).run K.P w) v := by
 rw [ho] at he
 simp only [aval] at he
 obtain ⟨v1, s1, h1, he2⟩ := exec_bind' he
 obtain ⟨hs1, hv, hno, hnu⟩ := ev_spec h h1
 subst hs1
 have hexec : (execOp a.eval o).run K.P w = .ok (.value (a.eval x)) w := by simp [execOp, ho]
 split at he2
 ·obtain ⟨rfl, rfl⟩ := exec_ret he2
  exact Yield.same h hexec hv hno
 ·obtain ⟨ω', Z', r1, k1, p1⟩ := moveSV_spec h hv hno he2
  exact ⟨_, w, β, ω', Z', hexec, r1, p1⟩
theorem assign_spec (h : Rel K β ω Z s a w) {x : Operand} {dst : Nat} {o : Oper} (ho : o.op = .assign x) {v : SV} {s' : St} (he : (aval cfg o.op dst).exec s = some (v, s')) :
  Yield K s' a dst ((execOp a.eval o).run K.P w) v := by
 rw [ho] at he
 simp only [aval] at he
 obtain ⟨v1, s1, h1, he2⟩ := exec_bind' he
 obtain ⟨hs1, hv, hno, hnu⟩ := ev_spec h h1
 subst hs1
 have hexec : (execOp a.eval o).run K.P w = .ok (.value (a.eval x)) w := by simp [execOp, ho]
 obtain ⟨ω', Z', r1, k1, p1⟩ := stashSV_spec h hv hno he2
 exact ⟨_, w, β, ω', Z', hexec, r1, p1⟩
theorem pick_spec (h : Rel K β ω Z s a w) {c x y : Operand} {dst : Nat} {o : Oper} (ho : o.op = .pick c x y) {v : SV} {s' : St} (he : (aval cfg o.op dst).exec s = some (v, s')) :
  Yield K s' a dst ((execOp a.eval o).run K.P w) v := by
 rw [ho] at he
 simp only [aval] at he
 obtain ⟨c1, s1, h1, he2⟩ := exec_bind' he
 obtain ⟨hs1, o1, r1, hno1⟩ := ev1_spec h h1
 subst hs1
 clear he
 obtain ⟨b, s2, h2, he3⟩ := exec_bind' he2
 obtain ⟨hs2, hc⟩ := cBool_spec h2
 subst hs2; subst hc
 have e1 : a.eval c = .bool b := r1
 have hexec : (execOp a.eval o).run K.P w = .ok (.value (if b = true then a.eval x else a.eval y)) w := by
  simp [execOp, ho, e1, asBool]
 split at he3
 ·rename_i hb
  obtain ⟨hs3, hv, hno, _⟩ := ev_spec h he3
  subst hs3
  rw [if_pos hb] at hexec
  exact Yield.same h hexec hv hno
 ·rename_i hb
  obtain ⟨hs3, hv, hno, _⟩ := ev_spec h he3
  subst hs3
  rw [if_neg hb] at hexec
  exact Yield.same h hexec hv hno
theorem nilCheck_spec (h : Rel K β ω Z s a w) {x : Operand} {dst : Nat} {o : Oper} (ho : o.op = .nilCheck x) {v : SV} {s' : St} (he : (aval cfg o.op dst).exec s = some (v, s')) :
  Yield K s' a dst ((execOp a.eval o).run K.P w) v := by
 rw [ho] at he
 simp only [aval] at he
 obtain ⟨c1, s1, h1, he2⟩ := exec_bind' he
 obtain ⟨hs1, o1, r1, hno⟩ := ev1_spec h h1
 subst hs1
 clear he
 split at he2
 ·obtain ⟨rfl, rfl⟩ := exec_ret he2
  obtain ⟨b, g1, g2⟩ := id r1
  exact Yield.same h (u := a.eval x) (by simp [execOp, ho, g2]) ⟨o1, r1⟩ (by simp [SV.cells, NoOwn])
 ·obtain ⟨rfl, rfl⟩ := exec_ret he2
  obtain ⟨b, oo, g2, _⟩ := id r1
  exact Yield.same h (u := a.eval x) (by simp [execOp, ho, g2]) ⟨o1, r1⟩ (by simp [SV.cells, NoOwn])
 ·obtain ⟨rfl, rfl⟩ := exec_ret he2
  obtain ⟨b, oo, g2, _⟩ := id r1
  exact Yield.same h (u := a.eval x) (by simp [execOp, ho, g2]) ⟨o1, r1⟩ (by simp [SV.cells, NoOwn])
 ·simp [Prog.exec] at he2
include hT in
theorem load_yield (h : Rel K β ω Z s a w) {t : TypeId} {x : Operand} {dst : Nat} {o : Oper} (ho : o.op = .load t x) {v : SV} {s' : St} (he : (aval cfg o.op dst).exec s = some (v, s')) :
  Yield K s' a dst ((execOp a.eval o).run K.P w) v := by
 rw [ho] at he
 simp only [aval] at he
 split at he
 ·rename_i i hti
  obtain ⟨c1, s1, h1, he2⟩ := exec_bind' he
  obtain ⟨hs1, o1, r1, hno⟩ := ev1_spec h h1
  subst hs1
  obtain ⟨hs2, y, g1, g2, g3⟩ := load_spec h (hT.T _ _ hti) r1 he2
  subst hs2
  exact Yield.same h (u := y) (by simp [execOp, ho, g1]) g2 g3
 ·simp [Prog.exec] at he
include hT in
theorem fieldAddr_yield (h : Rel K β ω Z s a w) {t : TypeId} {x : Operand} {f dst : Nat} {o : Oper} (ho : o.op = .fieldAddr t x f) {v : SV} {s' : St} (he : (aval cfg o.op dst).exec s = some (v, s')) :
  Yield K s' a dst ((execOp a.eval o).run K.P w) v := by
 rw [ho] at he
 simp only [aval] at he
 obtain ⟨c1, s1, h1, he2⟩ := exec_bind' he
 obtain ⟨hs1, o1, r1, hno⟩ := ev1_spec h h1
 subst hs1
 obtain ⟨c2, s2, h2, he3⟩ := exec_bind' he2
 obtain ⟨rfl, rfl⟩ := exec_ret he3
 obtain ⟨hs2, y, g1, g2, g3, g4⟩ := field_spec hT r1 h2
 subst hs2
 exact Yield.same h (u := y) (by simp [execOp, ho, g1]) ⟨g4, g2⟩ (by simpa [SV.cells] using g3)
include hT in
theorem indexAddr_yield (h : Rel K β ω Z s a w) {t : TypeId} {x ix : Operand} {dst : Nat} {o : Oper} (ho : o.op = .indexAddr t x ix) {v : SV} {s' : St} (he : (aval cfg o.op dst).exec s = some (v, s')) :
  Yield K s' a dst ((execOp a.eval o).run K.P w) v := by
 rw [ho] at he
 simp only [aval] at he
 obtain ⟨c1, s1, h1, he2⟩ := exec_bind' he
 obtain ⟨hs1, o1, r1, hno⟩ := ev1_spec h h1
 subst hs1
 clear he
 obtain ⟨c2, s2, h2, he3⟩ := exec_bind' he2
 obtain ⟨hs2, o2, r2, hno2⟩ := ev1_spec h h2
 subst hs2
 clear he2
 obtain ⟨n, s3, h3, he4⟩ := exec_bind' he3
 obtain ⟨hs3, k, rfl⟩ := cInt_spec h3
 subst hs3
 clear he3
 obtain ⟨c3, s4, h4, he5⟩ := exec_bind' he4
 obtain ⟨rfl, rfl⟩ := exec_ret he5
 have e2 : a.eval ix = .int k n := r2
 obtain ⟨hs4, y, g1, g2, g3, g4⟩ := indexAddr_spec hT (k := k) r1 h4
 subst hs4
 exact Yield.same h (u := y) (by simp [execOp, ho, e2, g1]) ⟨g4, g2⟩ (by simpa [SV.cells] using g3)
theorem part_spec {P : Program} {i : TI} {t : TypeId} (ht : tiOf P t = some i) {ws : Array Value} {cs : List C} (hall : All2 (fun u c => CRel K β Z s a w c u) ws.toList cs) (hno : ∀ c ∈ cs, NoOwn c) {off : Nat} {v : SV} {s' : St}
  (he : (slice1 i cs off).exec s = some (v, s')) : s' = s ∧ ∃ y, (part t ws off).run P w = .ok y w ∧ SVRel (CRel K β Z s a w) y v ∧ (∀ c ∈ v.cells, NoOwn c) := by
 obtain ⟨rfl, hpos, hle, h⟩ := slice1_spec he
 have hl := hall.length
 rcases h with ⟨hk, rfl⟩ | ⟨hk, c, hc, hnd, rfl⟩
 ·refine ⟨rfl, .agg (ws.extract off (off + i.size)), ?_, ⟨_, rfl, ?_⟩, fun c hc => hno c (List.mem_of_mem_drop (List.mem_of_mem_take hc))⟩
  ·simp [part, run_isAgg ht, hk, run_sizeOf ht]
  ·have : (ws.extract off (off + i.size)).toList = (ws.toList.drop off).take i.size := by simp [List.extract_eq_take_drop]
   rw [this]
   exact (hall.drop off).take _
 ·obtain ⟨u, hu, hcu⟩ := hall.get hc
  have hmem := List.mem_of_getElem? hc
  refine ⟨rfl, u, ?_, ⟨isOne_of_crel hcu hnd, hcu⟩, by simp only [SV.cells, List.mem_singleton]; rintro _ rfl; exact hno _ hmem⟩
  have hu' : ws[off]? = some u := by simpa using hu
  simp [part, run_isAgg ht, hk, hu']
include hT in
theorem field_yield (h : Rel K β ω Z s a w) {t : TypeId} {x : Operand} {f dst : Nat} {o : Oper} (ho : o.op = .field t x f) {v : SV} {s' : St} (he : (aval cfg o.op dst).exec s = some (v, s')) :
  Yield K s' a dst ((execOp a.eval o).run K.P w) v := by
 rw [ho] at he
 simp only [aval] at he
 obtain ⟨v1, s1, h1, he2⟩ := exec_bind' he
 obtain ⟨hs1, hv, hno, hnu⟩ := ev_spec h h1
 subst hs1
 clear he
 split at he2
 ·rename_i fs z cs hti
  split at he2
  ·rename_i oo ft hfs
   split at he2
   ·rename_i i hft
    obtain ⟨d, hd, hk, hun⟩ := run_underlying' (w := w) (hT.T _ _ hti)
    obtain ⟨fields, rfl, rfl⟩ := tk_struct hk
    rw [List.getElem?_map] at hfs
    cases hf : fields.toList[f]? with
    | none => rw [hf] at hfs; cases hfs
    | some fd =>
     rw [hf] at hfs
     simp only [Option.map_some, Option.some.injEq, Prod.mk.injEq] at hfs
     obtain ⟨rfl, rfl⟩ := hfs
     have hf' : fields[f]? = some fd := by simpa using hf
     obtain ⟨ws, e1, hall⟩ := hv
     obtain ⟨hs2, y, g1, g2, g3⟩ := part_spec (P := K.P) (hT.T _ _ hft) hall hno he2
     subst hs2
     exact Yield.same h (u := y) (by simp [execOp, ho, Instr.field, hun, hf', e1, asAgg, g1]) g2 g3
   ·simp [Prog.exec] at he2
  ·simp [Prog.exec] at he2
 ·simp [Prog.exec] at he2
include hT in
theorem index_yield (h : Rel K β ω Z s a w) {t : TypeId} {x ix : Operand} {dst : Nat} {o : Oper} (ho : o.op = .index t x ix) {v : SV} {s' : St} (he : (aval cfg o.op dst).exec s = some (v, s')) :
  Yield K s' a dst ((execOp a.eval o).run K.P w) v := by
 rw [ho] at he
 simp only [aval] at he
 obtain ⟨v1, s1, h1, he2⟩ := exec_bind' he
 obtain ⟨hs1, hv, hno, hnu⟩ := ev_spec h h1
 subst hs1
 clear he
 obtain ⟨c2, s2, h2, he3⟩ := exec_bind' he2
 obtain ⟨hs2, o2, r2, hno2⟩ := ev1_spec h h2
 subst hs2
 clear he2
 obtain ⟨n, s3, h3, he4⟩ := exec_bind' he3
 obtain ⟨hs3, k, rfl⟩ := cInt_spec h3
 subst hs3
 clear he3
 have e2 : a.eval ix = .int k n := r2
 unfold indexP at he4
 split at he4
 ·rename_i str hti
  obtain ⟨d, hd, hk, hun⟩ := run_underlying' (w := w) (hT.T _ _ hti)
  have hd2 := tk_str hk
  subst hd2
  obtain ⟨_, s4, h4, he5⟩ := exec_bind' he4
  obtain ⟨hn, hs4⟩ := exec_need h4
  subst hs4
  split at he5
  ·rename_i b hb
   obtain ⟨rfl, rfl⟩ := exec_ret he5
   have e1 : a.eval x = .string ⟨str.toArray⟩ := hv.2
   refine Yield.d h (u := .int .u8 b.toNat) ?_ rfl
   simp [execOp, ho, Instr.index, e1, e2, asIntOf, hun, hn, str_get, hb]
  ·simp [Prog.exec] at he5
 ·rename_i len et z cs hti
  obtain ⟨d, hd, hk, hun⟩ := run_underlying' (w := w) (hT.T _ _ hti)
  have hd2 := tk_array hk
  subst hd2
  split at he4
  ·rename_i i hft
   obtain ⟨_, s4, h4, he5⟩ := exec_bind' he4
   obtain ⟨hn, hs4⟩ := exec_need h4
   subst hs4
   obtain ⟨ws, e1, hall⟩ := hv
   obtain ⟨hs2, y, g1, g2, g3⟩ := part_spec (P := K.P) (hT.T _ _ hft) hall hno he5
   subst hs2
   exact Yield.same h (u := y) (by simp [execOp, ho, Instr.index, e1, e2, asIntOf, hun, hn, run_sizeOf (hT.T _ _ hft), g1]) g2 g3
  ·simp [Prog.exec] at he4
 ·simp [Prog.exec] at he4
include hT in
theorem len_yield (h : Rel K β ω Z s a w) {args : Array Operand} {tys : Array TypeId} {dst : Nat} {o : Oper} (ho : o.op = .call { callee := .builtin .len, args, argTypes := tys }) {v : SV} {s' : St} (he : (aval cfg o.op dst).exec s = some (v, s')) :
  Yield K s' a dst ((execOp a.eval o).run K.P w) v := by
 rw [ho] at he
 simp only [aval] at he
 split at he
 ·rename_i x t hx ht
  have hargs : args = #[x] := by apply Array.toList_inj.1; simpa using hx
  have htys : tys = #[t] := by apply Array.toList_inj.1; simpa using ht
  subst hargs; subst htys
  have key : ∀ b : Bool, (∃ i, cfg.ti t = some i ∧ ((b = true ∧ i.kind = .str) ∨ (b = false ∧ ∃ e, i.kind = .slice e))) → (do lenP b (← ev x) : Prog SV).exec s = some (v, s') → Yield K s' a dst ((execOp a.eval o).run K.P w) v := by
   rintro b ⟨i, hti, hkind⟩ he
   obtain ⟨v1, s1, h1, he2⟩ := exec_bind' he
   obtain ⟨hs1, hv, hno, hnu⟩ := ev_spec h h1
   subst hs1
   obtain ⟨hs2, n, rfl, hu⟩ := lenP_spec hv he2
   subst hs2
   obtain ⟨d, hd, hk, hun⟩ := run_underlying' (w := w) (hT.T _ _ hti)
   refine Yield.d h (u := .int .i64 n) ?_ rfl
   rcases hu with ⟨rfl, l, e1, rfl⟩ | ⟨rfl, ad, cap, e1⟩
   ·have hk' : tk d = .str := hkind.elim (fun q => by rw [hk, q.2]) (fun q => by cases q.1)
    have hd2 := tk_str hk'
    subst hd2
    simp [execOp, ho, resolve, invoke, builtin, Builtin.len_, e1, hun, goInt, str_size]
   ·obtain ⟨e, hk'⟩ : ∃ e, tk d = .slice e := hkind.elim (fun q => by cases q.1) (fun ⟨_, e, q⟩ => ⟨e, by rw [hk, q]⟩)
    have hd2 := tk_slice hk'
    subst hd2
    simp [execOp, ho, resolve, invoke, builtin, Builtin.len_, e1, hun, goInt]
  split at he
  ·rename_i hti; exact key true ⟨_, hti, .inl ⟨rfl, rfl⟩⟩ he
  ·rename_i hti; exact key false ⟨_, hti, .inr ⟨rfl, _, rfl⟩⟩ he
  ·obtain ⟨c, s1, h1, he2⟩ := exec_bind' he
   obtain ⟨hs1, o1, r1, hno1⟩ := ev1_spec h h1
   rw [hs1] at he2
   obtain ⟨hs2, n, rfl, hu, kt, et, hd⟩ := lenMap_spec hT h r1 he2
   subst hs2
   refine Yield.d h (u := .int .i64 n) ?_ rfl
   rcases hu with ⟨e1, rfl⟩ | ⟨b, es, clk, e1, g1, rfl⟩
   ·simp [execOp, ho, resolve, invoke, builtin, Builtin.len_, e1, run_underlying hd, goInt]
   ·simp [execOp, ho, resolve, invoke, builtin, Builtin.len_, e1, run_underlying hd, goInt, gom g1]
  ·simp [Prog.exec] at he
 ·simp [Prog.exec] at he
theorem evs_spec (h : Rel K β ω Z s a w) : ∀ (os : List Operand) {vs : List SV} {s' : St}, (evs os).exec s = some (vs, s') → s' = s ∧ All2 (fun u v => SVRel (CRel K β Z s a w) u v) (os.map a.eval) vs ∧ (∀ v ∈ vs, (∀ c ∈ v.cells, NoOwn c) ∧ v ≠ .undef) := by
 intro os
 induction os with
 | nil => intro vs s' he; obtain ⟨rfl, rfl⟩ := exec_ret he; exact ⟨rfl, trivial, by simp⟩
 | cons o os ih =>
  intro vs s' he
  simp only [evs] at he
  obtain ⟨v, s1, h1, he2⟩ := exec_bind' he
  obtain ⟨hs1, hv, hno, hnu⟩ := ev_spec h h1
  rw [hs1] at he2
  obtain ⟨vs', s2, h2, he3⟩ := exec_bind' he2
  obtain ⟨hs2, hvs, hnos⟩ := ih h2
  obtain ⟨hx, hs3⟩ := exec_ret he3
  rw [hx]
  refine ⟨by rw [hs3, hs2], ⟨hv, hvs⟩, fun x hx => ?_⟩
  rcases List.mem_cons.1 hx with rfl | hx
  ·exact ⟨hno, hnu⟩
  ·exact hnos x hx
theorem minmax_yield (h : Rel K β ω Z s a w) {args : Array Operand} {tys : Array TypeId} {dst : Nat} {o : Oper} {b : Bool} (ho : o.op = .call { callee := .builtin (if b then .min else .max), args, argTypes := tys }) {v : SV} {s' : St}
  (he : (do minmax b (← evs args.toList) : Prog SV).exec s = some (v, s')) : Yield K s' a dst ((execOp a.eval o).run K.P w) v := by
 obtain ⟨vs, s1, h1, he2⟩ := exec_bind' he
 obtain ⟨hs1, hvs, hall2⟩ := evs_spec h _ h1
 subst hs1
 unfold minmax at he2
 split at he2
 ·rename_i k x k' y
  obtain ⟨rfl, rfl⟩ := exec_ret he2
  match hargs : args.toList, hvs with
  | [p, q], hvs =>
   have e1 : a.eval p = .int k x := hvs.1.2
   have e2 : a.eval q = .int k' y := hvs.2.1.2
   have hA : args = #[p, q] := by apply Array.toList_inj.1; simpa using hargs
   subst hA
   refine Yield.d h (u := .int k (if b then (if y < x then y else x) else (if y > x then y else x))) ?_ rfl
   cases b
   ·simp [execOp, ho, resolve, invoke, builtin, Builtin.max_, Builtin.max2, e1, e2]
   ·simp [execOp, ho, resolve, invoke, builtin, Builtin.min_, Builtin.min2, e1, e2]
 ·simp [Prog.exec] at he2
theorem makeFunc_yield (h : Rel K β ω Z s a w) {f : FuncId} {first captured : Array Operand} {dst : Nat} {o : Oper} (ho : o.op = .makeFunc (.func f) first captured) {v : SV} {s' : St} (he : (aval cfg o.op dst).exec s = some (v, s')) :
  Yield K s' a dst ((execOp a.eval o).run K.P w) v := by
 rw [ho] at he
 simp only [aval] at he
 obtain ⟨_, s0, h0, he1⟩ := exec_bind' he
 obtain ⟨hfirst, hs0⟩ := exec_need h0
 subst hs0
 clear he
 obtain ⟨vs, s1, h1, he2⟩ := exec_bind' he1
 obtain ⟨hs1, hvs, hall2⟩ := evs_spec h _ h1
 subst hs1
 split at he2
 ·rename_i l hl
  obtain ⟨rfl, rfl⟩ := exec_ret he2
  have key : ∀ (os : List Value) (vs : List SV) (l : List (Key × Nat)), All2 (fun u v => SVRel (CRel K β Z s' a w) u v) os vs → vs.mapM (fun v => match v with | .one (.ptr k o) => some (k, o) | _ => none) = some l →
    All2 (fun u p => ∃ b, β p.1 = some b ∧ u = .pointer (some ⟨b, p.2, none⟩)) os l := by
   intro os
   induction os with
   | nil =>
    intro vs l hv hl
    cases vs with
    | nil => simp at hl; subst hl; trivial
    | cons _ _ => exact hv.elim
   | cons u os ih =>
    intro vs l hv hl
    cases vs with
    | nil => exact hv.elim
    | cons v vs =>
     rw [List.mapM_cons] at hl
     cases v with
     | one c =>
      cases c with
      | ptr k off =>
       cases hm : vs.mapM (fun v => match v with | .one (.ptr k o) => some (k, o) | _ => none) with
       | none => simp [hm] at hl
       | some l' =>
        simp [hm] at hl
        subst hl
        obtain ⟨b, g1, g2⟩ := hv.1.2
        exact ⟨⟨b, g1, g2⟩, ih vs l' hv.2 hm⟩
      | _ => simp at hl
     | _ => simp at hl
  have := key _ _ _ hvs hl
  refine Yield.same h (u := .func (.func f) #[] (captured.map a.eval)) ?_ ⟨rfl, captured.map a.eval, rfl, by simpa using this⟩ (by simp [SV.cells, NoOwn])
  simp [execOp, ho, Instr.makeFunc, hfirst]
 ·simp [Prog.exec] at he2
theorem extract_yield (h : Rel K β ω Z s a w) {x : Operand} {n dst : Nat} {o : Oper} (ho : o.op = .extract x n) {v : SV} {s' : St} (he : (aval cfg o.op dst).exec s = some (v, s')) :
  Yield K s' a dst ((execOp a.eval o).run K.P w) v := by
 rw [ho] at he
 simp only [aval] at he
 obtain ⟨v1, s1, h1, he2⟩ := exec_bind' he
 obtain ⟨hs1, hv, hno, hnu⟩ := ev_spec h h1
 subst hs1
 clear he
 split at he2
 ·rename_i vs
  obtain ⟨us, e1, hall⟩ := hv
  have key : ∀ (bx : Bool × List C) (v2 : SV), vs[n]? = some bx → ((bx.1 = true ∧ v2 = .agg bx.2) ∨ (bx.1 = false ∧ ∃ c, bx.2 = [c] ∧ v2 = .one c)) → (moveSV (.tmp dst) x v2).exec s1 = some (v, s') → Yield K s' a dst ((execOp a.eval o).run K.P w) v := by
   intro bx v2 hbx hv2 he
   obtain ⟨u, hu, hr⟩ := hall.get hbx
   have hu' : us[n]? = some u := by simpa using hu
   have hsv : SVRel (CRel K β Z s1 a w) u v2 := by
    unfold TRel at hr
    rcases hv2 with ⟨hb, rfl⟩ | ⟨hb, c, hc, rfl⟩
    ·simp only [hb, if_true] at hr; exact hr
    ·simp only [hb, Bool.false_eq_true, if_false] at hr
     obtain ⟨c', g1, g2, g3⟩ := hr
     rw [hc] at g1
     cases g1
     exact ⟨g2, g3⟩
   have hno2 : ∀ c ∈ v2.cells, NoOwn c := by
    intro c hc
    refine hno c (List.mem_flatMap.2 ⟨bx, List.mem_of_getElem? hbx, ?_⟩)
    rcases hv2 with ⟨hb, rfl⟩ | ⟨hb, c', hc', rfl⟩
    ·exact hc
    ·rw [hc']; exact hc
   obtain ⟨ω', Z', r1, k1, p1⟩ := moveSV_spec h hsv hno2 he
   exact ⟨u, w, β, ω', Z', by simp [execOp, ho, e1, Instr.extract, hu'], r1, p1⟩
  split at he2
  ·rename_i cs hbx; exact key _ _ hbx (.inl ⟨rfl, rfl⟩) he2
  ·rename_i c hbx; exact key _ _ hbx (.inr ⟨rfl, c, rfl, rfl⟩) he2
  ·simp [Prog.exec] at he2
 ·simp [Prog.exec] at he2
end
end Go.Vs
namespace Go.Vs
section
variable {K : Ctx} {β : Key → Option Nat} {ω : Nat → Option Holder} {Z : Nat → Prop} {s : St} {a : Act} {w : World} {cfg : Cfg} (hT : Tabs K.P cfg)
theorem rowsOfCells {e b : Nat} {ws : Array Value} {el : TypeId} {fz : Nat × Nat} (hw : w.heap[b]? = some (.cells ws el fz)) : ∀ (rows : List (List D)) (o : Nat), (∀ r ∈ rows, r.length = e) →
  (∀ (j : Nat) d, rows.flatten[j]? = some d → ∃ u, ws[o + j]? = some u ∧ DRel w Z d u) → RowsRel w Z e rows b o
 | [], _, _, _ => trivial
 | r :: rows, o, hl, h => by
  have hr := hl r (List.mem_cons_self ..)
  refine ⟨hr, RowRel.of_get fun j d hd => ?_, rowsOfCells hw rows (o + e) (fun x hx => hl x (List.mem_cons_of_mem _ hx)) fun j d hd => ?_⟩
  ·have hj : j < r.length := (List.getElem?_eq_some_iff.1 hd).1
   obtain ⟨u, h1, h2⟩ := h j d (by simp only [List.flatten_cons]; rw [List.getElem?_append_left hj]; exact hd)
   exact ⟨u, by simp [World.cell?, hw, h1], h2⟩
  ·obtain ⟨u, h1, h2⟩ := h (e + j) d (by
    simp only [List.flatten_cons]
    rw [List.getElem?_append_right (by omega), hr, Nat.add_sub_cancel_left]
    exact hd)
   exact ⟨u, by rw [show o + e + j = o + (e + j) by omega]; exact h1, h2⟩
theorem flatten_len {e : Nat} : ∀ {rows : List (List D)}, (∀ r ∈ rows, r.length = e) → rows.flatten.length = rows.length * e
 | [], _ => by simp
 | r :: rows, h => by
  simp only [List.flatten_cons, List.length_append, List.length_cons, flatten_len (rows := rows) (fun x hx => h x (List.mem_cons_of_mem _ hx)), h r (List.mem_cons_self ..), Nat.add_mul]
  omega
theorem RowsRel.us {e b : Nat} : ∀ {xs : List (List D)} {o : Nat}, RowsRel w Z e xs b o → ∃ us, DL w Z us xs.flatten ∧ us.length = xs.length * e ∧ ∀ j, j < us.length → w.cell? ⟨b, o + j, none⟩ = us[j]?
 | [], _, _ => ⟨[], trivial, by simp, by simp⟩
 | x :: xs, o, h => by
  obtain ⟨h1, h2, h3⟩ := h
  obtain ⟨u1, f1, f2⟩ := h2.us
  obtain ⟨u2, g1, g2, g3⟩ := RowsRel.us h3
  have hl : u1.length = e := by rw [f1.length, h1]
  refine ⟨u1 ++ u2, All2.append f1 g1, by simp [g2, hl, Nat.add_mul]; omega, fun j hj => ?_⟩
  by_cases hj1 : j < u1.length
  ·rw [List.getElem?_append_left hj1]; exact f2 j hj1
  ·rw [List.getElem?_append_right (by omega)]
   have := g3 (j - u1.length) (by simp at hj; omega)
   rw [← this]
   congr 2
   omega
theorem DL.get {us : List Value} {ds : List D} (h : DL w Z us ds) {j : Nat} {d : D} (hd : ds[j]? = some d) : ∃ u, us[j]? = some u ∧ DRel w Z d u := All2.get h hd
theorem DL.mono {w' : World} {Z' : Nat → Prop} (hZ : ∀ b, Z b → w'.heap[b]? = w.heap[b]? ∧ Z' b) {us : List Value} {ds : List D} (h : DL w Z us ds) : DL w' Z' us ds := All2.mono (fun _ _ hr => DRel.mono hZ _ _ hr) h
theorem zeroRow (zero : Array Value) (n : Nat) : ((Array.range (n * zero.size)).map fun i => zero[i % zero.size]!).toList = (List.replicate n zero.toList).flatten := by
 apply List.ext_getElem?
 intro i
 have hlen : (List.replicate n zero.toList).flatten.length = n * zero.size := by simp
 by_cases hi : i < n * zero.size
 ·have hz : 0 < zero.size := by
   rcases Nat.eq_zero_or_pos zero.size with h | h
   ·rw [h] at hi; simp at hi
   ·exact h
  have key : ∀ (n i : Nat), i < n * zero.size → (List.replicate n zero.toList).flatten[i]? = zero.toList[i % zero.size]? := by
   intro n
   induction n with
   | zero => intro i hi; simp at hi
   | succ n ih =>
    intro i hi
    simp only [List.replicate_succ, List.flatten_cons]
    by_cases h1 : i < zero.toList.length
    ·rw [List.getElem?_append_left h1, Nat.mod_eq_of_lt (by simpa using h1)]
    ·rw [List.getElem?_append_right (by omega)]
     simp only [Array.length_toList] at h1 ⊢
     rw [ih (i - zero.size) (by rw [Nat.add_mul] at hi; omega)]
     rw [← Nat.mod_eq_sub_mod (by omega)]
  rw [key n i hi]
  have hm : i % zero.size < zero.size := Nat.mod_lt _ hz
  simp only [Array.toList_map, Array.toList_range, List.getElem?_map, List.getElem?_range hi, Option.map_some, Array.getElem?_toList]
  rw [Array.getElem?_eq_getElem hm, getElem!_pos zero _ hm]
 ·rw [List.getElem?_eq_none (by simpa using hi), List.getElem?_eq_none (by rw [hlen]; omega)]
theorem replicate_DL {us : List Value} {ds : List D} (h : DL w Z us ds) : ∀ n : Nat, DL w Z (List.replicate n us).flatten (List.replicate n ds).flatten
 | 0 => trivial
 | n + 1 => by
  simp only [List.replicate_succ, List.flatten_cons]
  exact All2.append h (replicate_DL h n)
theorem newRow_yield (h : Rel K β ω Z s a w) {e dst len cap : Nat} {ws : Array Value} {el : TypeId} {rows : List (List D)} {r : Result Next} (hr : r = .ok (.value (.slice (some ⟨w.heap.size, 0, none⟩) len cap)) (w.alloc (.cells ws el)))
  (hl : rows.length = len) (hcap : len ≤ cap) (hws : cap * e ≤ ws.size) (hrow : ∀ r ∈ rows, r.length = e) (hd : ∀ (j : Nat) d, rows.flatten[j]? = some d → ∃ u, ws[j]? = some u ∧ DRel w Z d u) (hm : isMap e = false) :
  Yield K s a dst r (.one (.own e rows)) := by
 obtain ⟨r1, k1, f1, g1⟩ := h.alloc ws el (.tmp dst, some 0)
 refine ⟨_, _, β, _, Z, hr, r1, ⟨rfl, (CRel.own_sl hm).2 ⟨⟨w.heap.size, 0, none⟩, cap, by rw [hl], rfl, by rw [hl]; exact hcap, ?_⟩⟩, ?_⟩
 ·refine rowsOfCells g1 rows 0 hrow fun j d hj => ?_
  obtain ⟨u, q1, q2⟩ := hd j d hj
  exact ⟨u, by simpa using q1, DRel.mono (fun b hb => ⟨k1.heap b (h.zin b hb), hb⟩) _ _ q2⟩
 ·intro j c x hc hx
  have hj : j = 0 := by
   simp only [SV.cells] at hc
   cases j with
   | zero => rfl
   | succ j => simp at hc
  subst hj
  simp only [SV.cells, List.getElem?_cons_zero, Option.some.injEq] at hc
  simp only [flat, List.getElem?_cons_zero, Option.some.injEq] at hx
  subst hc; subst hx
  refine ⟨(CRel.own_sl hm).2 ⟨⟨w.heap.size, 0, none⟩, cap, by rw [hl], rfl, by rw [hl]; exact hcap, ?_⟩, fun e' xs b q1 q2 => ?_⟩
  ·refine rowsOfCells g1 rows 0 hrow fun j d hj => ?_
   obtain ⟨u, q1, q2⟩ := hd j d hj
   exact ⟨u, by simpa using q1, DRel.mono (fun b hb => ⟨k1.heap b (h.zin b hb), hb⟩) _ _ q2⟩
  ·cases q1
   cases q2
   exact ⟨by simp, ⟨ws, el, 0, 0, g1, by simpa using hws, by omega⟩, f1⟩
theorem run_newRow {P : Program} (el : TypeId) (ws : Array Value) : (newRow el ws).run P w = .ok ⟨w.heap.size, 0, none⟩ (w.alloc (.cells ws el)) := rfl
theorem newBox (h : Rel K β ω Z s a w) {k : Key} (hu : (s (.box k)).v = .undef) {ws : Array Value} {el : TypeId} {cs : List C} (hp : PendL K β ω Z s a w (fun n => (.box k, n)) 0 ws.toList cs) :
  ∃ β' ω', Rel K β' ω' Z (s.set (.box k) { hv := (s (.box k)).hv + 1, cv := (s (.box k)).cv, v := .agg cs }) a (w.alloc (.cells ws el)) ∧ β' k = some w.heap.size := by
 obtain ⟨r1, k1, f1, g1⟩ := h.alloc ws el (.box k, none)
 have hp1 := PendL.lift h k1 hp
 have hβ : β k = none := by have := h.boxes k; rw [hu] at this; exact this
 obtain ⟨q1, _⟩ := r1.setBox (k := k) (b := w.heap.size) (ws := ws) (el := el) (lo := 0) (hi := 0) (w' := w.alloc (.cells ws el)) (cs := cs) (by simp) (.inl hβ) rfl rfl rfl rfl (fun _ _ => rfl) g1 (by omega) hp1.all (by
  intro j e xs u1 b1 hc hx hb1
  have := (hp1.get hc hx).2 e xs b1 rfl hb1
  simp only [Nat.zero_add] at this
  exact ⟨this.1, this.2.1⟩)
 exact ⟨_, _, q1, by simp⟩
theorem ptr_yield {β' : Key → Option Nat} {ω' : Nat → Option Holder} {Z' : Nat → Prop} {s' : St} {w' : World} {k : Key} {b dst : Nat} (h : Rel K β' ω' Z' s' a w') (hb : β' k = some b) {r : Result Next} (hr : r = .ok (.value (.pointer (some ⟨b, 0, none⟩))) w') :
  Yield K s' a dst r (.one (.ptr k 0)) :=
 ⟨_, w', β', ω', Z', hr, h, Pend.of_noOwn ⟨rfl, b, hb, rfl⟩ (by simp [SV.cells, NoOwn])⟩
theorem DL.pendL {mk : Nat → Res × Nat} : ∀ {i : Nat} {us : List Value} {ds : List D}, DL w Z us ds → PendL K β ω Z s a w mk i us (ds.map .d)
 | _, [], [], _ => trivial
 | _, _ :: _, _ :: _, h => ⟨PendC.of_not (by simp [NoOwn]) h.1, DL.pendL h.2⟩
include hT in
theorem alloc_yield (h : Rel K β ω Z s a w) {t : TypeId} {dst : Nat} {o : Oper} (ho : o.op = .alloc t) {v : SV} {s' : St} (he : (aval cfg o.op dst).exec s = some (v, s')) :
  Yield K s' a dst ((execOp a.eval o).run K.P w) v := by
 rw [ho] at he
 simp only [aval] at he
 split at he
 ·rename_i size bytes kind z hti
  obtain ⟨_, s1, h1, he2⟩ := exec_bind' he
  obtain ⟨hz, hs1⟩ := exec_need h1
  subst hs1
  simp only [Prog.exec] at he2
  split at he2
  ·rename_i hu
   obtain ⟨_, s2, h2, he3⟩ := exec_bind' he2
   simp only [putR, Prog.exec, Option.some.injEq, Prod.mk.injEq] at h2
   obtain ⟨_, rfl⟩ := h2
   obtain ⟨rfl, rfl⟩ := exec_ret he3
   obtain ⟨zv, hzv, hrf⟩ := run_zeroValue (w := w) (hT.T _ _ hti) rfl
   obtain ⟨β', ω', q1, q2⟩ := newBox h hu (ws := zv.cells) (el := t) (cs := z.map .d) (reflectAll_rel' hrf).pendL
   refine ptr_yield q1 q2 ?_
   simp only [execOp, ho, Instr.alloc, Sem.run_bind, hzv, Result.andThen_ok, newVar, run_newRow, Sem.run_pure]
  ·simp [Prog.exec] at he2
 ·simp [Prog.exec] at he
theorem box_yield (h : Rel K β ω Z s a w) {t : TypeId} {x : Operand} {dst : Nat} {o : Oper} (ho : o.op = .box t x) {v : SV} {s' : St} (he : (aval cfg o.op dst).exec s = some (v, s')) :
  Yield K s' a dst ((execOp a.eval o).run K.P w) v := by
 rw [ho] at he
 simp only [aval] at he
 obtain ⟨v1, s1, h1, he2⟩ := exec_bind' he
 obtain ⟨hs1, hv, hno, hnu⟩ := ev_spec h h1
 subst hs1
 clear he
 split at he2
 ·rename_i cs hcs
  obtain ⟨hcc, hall⟩ := asCells_rel hv hcs
  obtain ⟨cs', s2, h2, he3⟩ := exec_bind' he2
  obtain ⟨ω1, Z1, r1, k1, p1⟩ := stashes_spec (mk := fun n => (.box (.loc dst), n)) cs 0 _ ω Z s1 s2 cs' h hall (fun c hc => hno c (by rw [hcc]; exact hc)) h2
  simp only [Prog.exec] at he3
  split at he3
  ·rename_i hu
   obtain ⟨_, s3, h3, he4⟩ := exec_bind' he3
   simp only [putR, Prog.exec, Option.some.injEq, Prod.mk.injEq] at h3
   obtain ⟨_, rfl⟩ := h3
   obtain ⟨rfl, rfl⟩ := exec_ret he4
   obtain ⟨β', ω', q1, q2⟩ := newBox r1 hu (ws := (a.eval x).cells) (el := t) (cs := cs') p1
   refine ptr_yield q1 q2 ?_
   simp only [execOp, ho, Instr.box, Sem.run_bind, newVar, run_newRow, Result.andThen_ok, Sem.run_pure]
  ·simp [Prog.exec] at he3
 ·simp [Prog.exec] at he2
theorem foldl_splice (off : Nat) : ∀ (us : List Value) (k : Nat) (cells : Array Value), off + k + us.length ≤ cells.size →
  ((us.zipIdx k).foldl (fun (cs : Array Value) (x : Value × Nat) => cs.setIfInBounds (off + x.2) x.1) cells).toList = splice cells.toList (off + k) us
 | [], k, cells, _ => by simp [splice]
 | u :: us, k, cells, h => by
  simp only [List.length_cons] at h
  simp only [List.zipIdx_cons, List.foldl_cons]
  rw [foldl_splice off us (k + 1) _ (by simp; omega)]
  rw [Array.toList_setIfInBounds, show off + (k + 1) = off + k + 1 by omega]
  exact splice_set (by simpa using (by omega : off + k < cells.size))
theorem foldl_splice' (off : Nat) (us : Array Value) (cells : Array Value) (h : off + us.size ≤ cells.size) :
  (us.zipIdx.foldl (fun (cs : Array Value) (x : Value × Nat) => cs.setIfInBounds (off + x.2) x.1) cells).toList = splice cells.toList off us.toList := by
 rw [← Array.foldl_toList, Array.toList_zipIdx]
 have := foldl_splice off us.toList 0 cells (by simpa using h)
 simpa using this
theorem run_mapM {α γ : Type} {P : Program} (g : α → Sem γ) (f : α → γ) : ∀ (l : List α), (∀ x ∈ l, (g x).run P w = .ok (f x) w) → (l.mapM g).run P w = .ok (l.map f) w
 | [], _ => by simp
 | x :: l, h => by
  rw [List.mapM_cons]
  simp [h x (List.mem_cons_self ..), run_mapM g f l fun y hy => h y (List.mem_cons_of_mem _ hy)]
theorem run_mapMA {α γ : Type} {P : Program} (g : α → Sem γ) (f : α → γ) (l : Array α) (h : ∀ x ∈ l, (g x).run P w = .ok (f x) w) : (l.mapM g).run P w = .ok (l.map f) w := by
 have h1 := run_mapM (w := w) (P := P) g f l.toList (fun x hx => h x (by simpa using hx))
 rw [← Array.toList_mapM] at h1
 simp only [Sem.run_map] at h1
 cases hr : (l.mapM g).run P w with
 | ok b w' =>
  rw [hr] at h1
  simp only [Result.andThen_ok, Result.ok.injEq] at h1
  obtain ⟨q1, rfl⟩ := h1
  congr 1
  apply Array.toList_inj.1
  rw [q1]
  simp
 | halt x w' => rw [hr] at h1; simp at h1
theorem parts_spec (h : Rel K β ω Z s a w) {place : Nat → Option (Nat × Nat)} {fs : List (Nat × TypeId)} (hplace : ∀ (i off : Nat) t ti, fs[i]? = some (off, t) → cfg.ti t = some ti → place i = some (off, ti.size)) {size : Nat} :
  ∀ (parts : List (Nat × Operand)) {ps : List (Nat × List C)} {s' : St} (cells : Array Value) (cs : List C), (partsOf fs cfg parts).exec s = some (ps, s') → (∀ p ∈ ps, p.1 + p.2.length ≤ size) → cells.size = size →
   All2 (fun u c => CRel K β Z s a w c u) cells.toList cs → (∀ c ∈ cs, NoOwn c) →
   s' = s ∧ ∃ ws, Instr.fill place cells (parts.map fun p => (p.1, a.eval p.2)) = some ws ∧ All2 (fun u c => CRel K β Z s a w c u) ws.toList (fill cs ps) ∧ (∀ c ∈ fill cs ps, NoOwn c) := by
 intro parts
 induction parts with
 | nil =>
  intro ps s' cells cs he _ _ hall hno
  obtain ⟨rfl, rfl⟩ := exec_ret he
  exact ⟨rfl, cells, rfl, hall, hno⟩
 | cons p parts ih =>
  obtain ⟨i, o⟩ := p
  intro ps s' cells cs he hle hsz hall hno
  simp only [partsOf] at he
  obtain ⟨v, s1, h1, he2⟩ := exec_bind' he
  obtain ⟨hs1, hv, hnov, hnu⟩ := ev_spec h h1
  rw [hs1] at he2
  split at he2
  ·rename_i off t cs1 hfs hcs
   split at he2
   ·rename_i ti hti
    obtain ⟨_, s2, h2, he3⟩ := exec_bind' he2
    obtain ⟨hlen, hs2⟩ := exec_need h2
    rw [hs2] at he3
    obtain ⟨rest, s3, h3, he4⟩ := exec_bind' he3
    obtain ⟨hx, hs4⟩ := exec_ret he4
    subst hx
    obtain ⟨hcc, hcall⟩ := asCells_rel hv hcs
    have hul : (a.eval o).cells.size = ti.size := by have := hcall.length; simp at this; omega
    have hfit := hle (off, cs1) (List.mem_cons_self ..)
    simp only at hfit
    have hpl := hplace i off t ti hfs hti
    have hsp := foldl_splice' off (a.eval o).cells cells (by omega)
    obtain ⟨q1, ws, q2, q3, q4⟩ := ih ((a.eval o).cells.zipIdx.foldl (fun (cs : Array Value) (x : Value × Nat) => cs.setIfInBounds (off + x.2) x.1) cells) (splice cs off cs1) h3
     (fun p hp => hle p (List.mem_cons_of_mem _ hp)) (by
      have := congrArg List.length hsp
      rw [splice_length (by simp; omega)] at this
      simpa [hsz] using this) (by rw [hsp]; exact hall.splice hcall) (by
      intro c hc
      simp only [splice, List.mem_append] at hc
      rcases hc with (hc | hc) | hc
      ·exact hno c (List.mem_of_mem_take hc)
      ·exact hnov c (by rw [hcc]; exact hc)
      ·exact hno c (List.mem_of_mem_drop hc))
    refine ⟨by rw [hs4, q1], ws, ?_, q3, q4⟩
    simp only [List.map_cons, Instr.fill, hpl]
    rw [if_neg]
    ·exact q2
    ·simp only [Bool.or_eq_true, bne_iff_ne, ne_eq, decide_eq_true_eq, not_or, Decidable.not_not]
     exact ⟨hul, by omega⟩
   ·simp [Prog.exec] at he2
  ·simp [Prog.exec] at he2
include hT in
theorem build_yield (h : Rel K β ω Z s a w) {t : TypeId} {parts : Array (Nat × Operand)} {dst : Nat} {o : Oper} (ho : o.op = .build t parts) {v : SV} {s' : St} (he : (aval cfg o.op dst).exec s = some (v, s')) :
  Yield K s' a dst ((execOp a.eval o).run K.P w) v := by
 rw [ho] at he
 simp only [aval] at he
 unfold buildP at he
 have hpt : (parts.map fun (x : Nat × Operand) => (x.1, a.eval x.2)).toList = parts.toList.map fun p => (p.1, a.eval p.2) := by simp
 split at he
 ·rename_i size bytes fs z hti
  obtain ⟨_, s1, h1, he2⟩ := exec_bind' he
  obtain ⟨⟨hz, hfs⟩, hs1⟩ := exec_need h1
  rw [hs1] at he2
  obtain ⟨ps, s2, h2, he3⟩ := exec_bind' he2
  obtain ⟨_, s3, h3, he4⟩ := exec_bind' he3
  obtain ⟨hle, hs3⟩ := exec_need h3
  rw [hs3] at he4
  obtain ⟨hx, hs4⟩ := exec_ret he4
  subst hx
  obtain ⟨zv, hzv, hrf⟩ := run_zeroValue (w := w) (hT.T _ _ hti) rfl
  obtain ⟨d, hd, hk, hun⟩ := run_underlying' (w := w) (hT.T _ _ hti)
  obtain ⟨fields, rfl, rfl⟩ := tk_struct hk
  have hsize : ∀ f ∈ fields, (sizeOf f.type).run K.P w = .ok (K.P.cellsOf f.type) w := by
   intro f hf
   have := hfs (f.offset, f.type) (List.mem_map.2 ⟨f, by simpa using hf, rfl⟩)
   obtain ⟨ti, hti2⟩ := Option.isSome_iff_exists.1 this
   rw [run_sizeOf (hT.T _ _ hti2)]
   obtain ⟨info, d2, g1, g2, g3, _⟩ := tiOf_parts (hT.T _ _ hti2)
   simp [Program.cellsOf, g1, g3]
  have hmap := run_mapMA (P := K.P) (w := w) (fun f : Field => (do pure (f.offset, ← sizeOf f.type) : Sem (Nat × Nat))) (fun f => (f.offset, K.P.cellsOf f.type)) fields (fun f hf => by simp [hsize f hf])
  obtain ⟨q1, ws, q2, q3, q4⟩ := parts_spec h (place := fun i => (fields.map fun f => (f.offset, K.P.cellsOf f.type))[i]?) (size := size) (by
   intro i off t' ti hf hti'
   rw [List.getElem?_map] at hf
   cases hfi : fields.toList[i]? with
   | none => rw [hfi] at hf; cases hf
   | some f =>
    rw [hfi] at hf
    simp only [Option.map_some, Option.some.injEq, Prod.mk.injEq] at hf
    obtain ⟨rfl, rfl⟩ := hf
    have hfi' : fields[i]? = some f := by simpa using hfi
    obtain ⟨info, d2, g1, g2, g3, _⟩ := tiOf_parts (hT.T _ _ hti')
    simp [hfi', Program.cellsOf, g1, g3]) parts.toList zv.cells (z.map .d) h2 hle (by
    have h1 := (reflectAll_rel' (w := w) (Z := Z) hrf).length
    have h2 : zv.cells.size = z.length := by simpa using h1
    omega) (reflectAll_rel hrf) (by simp [NoOwn])
  rw [hs4, q1]
  refine Yield.same h (u := .agg ws) ?_ ⟨ws, rfl, q3⟩ q4
  simp only [execOp, ho, Instr.build, Sem.run_bind, hzv, Result.andThen_ok, hun, hmap, hpt, q2, Sem.run_pure]
 ·rename_i size bytes n et z hti
  split at he
  ·rename_i i hft
   obtain ⟨_, s1, h1, he2⟩ := exec_bind' he
   obtain ⟨hz, hs1⟩ := exec_need h1
   rw [hs1] at he2
   obtain ⟨ps, s2, h2, he3⟩ := exec_bind' he2
   obtain ⟨_, s3, h3, he4⟩ := exec_bind' he3
   obtain ⟨hle, hs3⟩ := exec_need h3
   rw [hs3] at he4
   obtain ⟨hx, hs4⟩ := exec_ret he4
   subst hx
   obtain ⟨zv, hzv, hrf⟩ := run_zeroValue (w := w) (hT.T _ _ hti) rfl
   obtain ⟨d, hd, hk, hun⟩ := run_underlying' (w := w) (hT.T _ _ hti)
   have hd2 := tk_array hk
   subst hd2
   obtain ⟨q1, ws, q2, q3, q4⟩ := parts_spec h (place := fun i' => some (i' * i.size, i.size)) (size := size) (by
    intro i' off t' ti hf hti'
    rw [List.getElem?_map] at hf
    cases hfi : (List.range n)[i']? with
    | none => rw [hfi] at hf; cases hf
    | some f =>
     rw [hfi] at hf
     simp only [Option.map_some, Option.some.injEq, Prod.mk.injEq] at hf
     obtain ⟨rfl, rfl⟩ := hf
     rw [List.getElem?_range] at hfi
     ·cases hfi; rw [hft] at hti'; cases hti'; rfl
     ·have := (List.getElem?_eq_some_iff.1 hfi).1; simpa using this) parts.toList zv.cells (z.map .d) h2 hle (by
     have h1 := (reflectAll_rel' (w := w) (Z := Z) hrf).length
     have h2 : zv.cells.size = z.length := by simpa using h1
     omega) (reflectAll_rel hrf) (by simp [NoOwn])
   rw [hs4, q1]
   refine Yield.same h (u := .agg ws) ?_ ⟨ws, rfl, q3⟩ q4
   simp only [execOp, ho, Instr.build, Sem.run_bind, hzv, Result.andThen_ok, hun, run_sizeOf (hT.T _ _ hft), hpt, q2, Sem.run_pure]
  ·simp [Prog.exec] at he
 ·simp [Prog.exec] at he
end
end Go.Vs
namespace Go.Vs
theorem flatten_set {e : Nat} {ds : List D} : ∀ {rows : List (List D)} {i : Nat}, (∀ r ∈ rows, r.length = e) → ds.length = e → i < rows.length → (rows.set i ds).flatten = splice rows.flatten (i * e) ds
 | [], i, _, _, h => by simp at h
 | r :: rows, 0, hl, hd, _ => by
  have hr := hl r (List.mem_cons_self ..)
  simp only [List.set_cons_zero, List.flatten_cons, splice, Nat.zero_mul, List.take_zero, List.nil_append, Nat.zero_add, hd]
  rw [List.drop_append_of_le_length (by omega), List.drop_of_length_le (by omega), List.nil_append]
 | r :: rows, i + 1, hl, hd, h => by
  have hr := hl r (List.mem_cons_self ..)
  have ih := flatten_set (rows := rows) (i := i) (fun x hx => hl x (List.mem_cons_of_mem _ hx)) hd (by simpa using h)
  simp only [List.set_cons_succ, List.flatten_cons, ih]
  simp only [splice]
  rw [Nat.add_mul, Nat.one_mul, List.take_append, List.take_of_length_le (show r.length ≤ i * e + e by omega), List.drop_append, List.drop_of_length_le (show r.length ≤ i * e + e + ds.length by omega), List.nil_append, List.append_assoc, List.append_assoc]
  rw [show i * e + e - r.length = i * e by omega, show i * e + e + ds.length - r.length = i * e + ds.length by omega]
  simp [List.append_assoc]
section
variable {K : Ctx} {β : Key → Option Nat} {ω : Nat → Option Holder} {Z : Nat → Prop} {s : St} {a : Act} {w : World} {cfg : Cfg} (hT : Tabs K.P cfg)
theorem rows_spec {size : Nat} : ∀ (parts : List (Nat × Operand)) (ω : Nat → Option Holder) (Z : Nat → Prop) (s s' : St) (cells : Array Value) (rows rows' : List (List D)), Rel K β ω Z s a w → (rowsOf size parts rows).exec s = some (rows', s') → (∀ r ∈ rows, r.length = size) → DL w Z cells.toList rows.flatten →
  ∃ ω' Z' ws, Rel K β ω' Z' s' a w ∧ Instr.fill (fun i => some (i * size, size)) cells (parts.map fun p => (p.1, a.eval p.2)) = some ws ∧ DL w Z' ws.toList rows'.flatten ∧ (∀ r ∈ rows', r.length = size) ∧ rows'.length = rows.length := by
 intro parts
 induction parts with
 | nil =>
  intro ω Z s s' cells rows rows' h he hl hd
  obtain ⟨hx, hs⟩ := exec_ret he
  subst hx; subst hs
  exact ⟨ω, Z, cells, h, rfl, hd, hl, rfl⟩
 | cons p parts ih =>
  obtain ⟨i, o⟩ := p
  intro ω Z s s' cells rows rows' h he hl hd
  simp only [rowsOf] at he
  obtain ⟨v, s1, h1, he2⟩ := exec_bind' he
  obtain ⟨hs1, hv, hno, hnu⟩ := ev_spec h h1
  rw [hs1] at he2
  split at he2
  ·rename_i cs hcs
   obtain ⟨_, s2, h2, he3⟩ := exec_bind' he2
   obtain ⟨⟨hlen, hi⟩, hs2⟩ := exec_need h2
   rw [hs2] at he3
   obtain ⟨ds, s3, h3, he4⟩ := exec_bind' he3
   obtain ⟨hcc, hall⟩ := asCells_rel hv hcs
   obtain ⟨ω1, Z1, r1, k1, p1⟩ := toDs_spec cs _ ω Z s s3 ds h hall (fun c hc => hno c (by rw [hcc]; exact hc)) h3
   have hul : (a.eval o).cells.size = size := by have := hall.length; simp at this; omega
   have hdl : ds.length = size := by rw [← p1.length]; simpa using hul
   have hcl : cells.size = rows.length * size := by have := hd.length; rw [flatten_len hl] at this; simpa using this
   have hfit : i * size + size ≤ cells.size := by
    rw [hcl, ← Nat.succ_mul]
    exact Nat.mul_le_mul_right _ hi
   have hsp := foldl_splice' (i * size) (a.eval o).cells cells (by omega)
   obtain ⟨ω2, Z2, ws, q1, q2, q3, q4, q5⟩ := ih ω1 Z1 s3 s' ((a.eval o).cells.zipIdx.foldl (fun (cs : Array Value) (x : Value × Nat) => cs.setIfInBounds (i * size + x.2) x.1) cells) (rows.set i ds) rows' r1 he4
    (by
     intro r hr
     rcases List.mem_or_eq_of_mem_set hr with hr | rfl
     ·exact hl r hr
     ·exact hdl) (by
     rw [hsp, flatten_set hl hdl hi]
     exact All2.splice (hd.mono fun b hb => ⟨rfl, k1.z b hb⟩) p1)
   refine ⟨ω2, Z2, ws, q1, ?_, q3, q4, by rw [q5]; simp⟩
   simp only [List.map_cons, Instr.fill]
   rw [if_neg]
   ·exact q2
   ·simp only [Bool.or_eq_true, bne_iff_ne, ne_eq, decide_eq_true_eq, not_or, Decidable.not_not]
    exact ⟨hul, by omega⟩
  ·simp [Prog.exec] at he2
include hT in
theorem buildSlice_yield (h : Rel K β ω Z s a w) {t : TypeId} {len : Nat} {parts : Array (Nat × Operand)} {dst : Nat} {o : Oper} (ho : o.op = .buildSlice t len parts) {v : SV} {s' : St} (he : (aval cfg o.op dst).exec s = some (v, s')) :
  Yield K s' a dst ((execOp a.eval o).run K.P w) v := by
 rw [ho] at he
 simp only [aval] at he
 unfold buildSliceP at he
 have hpt : (parts.map fun (x : Nat × Operand) => (x.1, a.eval x.2)).toList = parts.toList.map fun p => (p.1, a.eval p.2) := by simp
 split at he
 ·rename_i size bytes et zz hti
  split at he
  ·rename_i i hft
   split at he
   ·rename_i z hz
    obtain ⟨_, s1, h1, he2⟩ := exec_bind' he
    obtain ⟨⟨hzl, hpos, hmax, hmp⟩, hs1⟩ := exec_need h1
    rw [hs1] at he2
    obtain ⟨rows, s2, h2, he3⟩ := exec_bind' he2
    obtain ⟨hx, hs4⟩ := exec_ret he3
    subst hx; subst hs4
    obtain ⟨zv, hzv, hrf⟩ := run_zeroValue (w := w) (hT.T _ _ hft) hz
    obtain ⟨d, hd, hk, hun⟩ := run_underlying' (w := w) (hT.T _ _ hti)
    have hd2 := tk_slice hk
    subst hd2
    have hzd := reflectAll_rel' (w := w) (Z := Z) hrf
    have hzs : zv.cells.size = i.size := by have := hzd.length; simp at this; omega
    have hcells : ((Array.range (len * i.size)).map ((if len * i.size = 0 then #[] else zv.cells)[· % (if len * i.size = 0 then #[] else zv.cells).size]!)).toList = (List.replicate len zv.cells.toList).flatten := by
     split
     ·rename_i h0
      have : len = 0 := by rcases Nat.mul_eq_zero.1 h0 with h | h <;> omega
      subst this
      simp
     ·rw [← hzs]
      exact zeroRow zv.cells len
    obtain ⟨ω2, Z2, ws, q1, q2, q3, q4, q5⟩ := rows_spec parts.toList ω Z s s' ((Array.range (len * i.size)).map ((if len * i.size = 0 then #[] else zv.cells)[· % (if len * i.size = 0 then #[] else zv.cells).size]!)) (List.replicate len z) rows h h2
     (by intro r hr; rw [List.eq_of_mem_replicate hr, hzl]) (by rw [hcells]; exact replicate_DL hzd len)
    have hwl : ws.size = len * i.size := by
     have := q3.length
     rw [flatten_len q4, q5] at this
     simpa using this
    refine newRow_yield (hm := hmp) q1 (len := len) (cap := len) (ws := ws) (el := et) ?_ (by rw [q5]; simp) (Nat.le_refl _) (by omega) q4 (fun j d hj => by
     obtain ⟨u, g1, g2⟩ := q3.get hj
     exact ⟨u, by simpa using g1, g2⟩)
    simp only [execOp, ho, Instr.buildSlice, Sem.run_bind, hun, Result.andThen_ok, run_sizeOf (hT.T _ _ hft)]
    rw [if_neg (by omega)]
    by_cases h0 : len * i.size = 0
    ·simp only [if_pos h0] at q2 ⊢
     simp only [Sem.run_bind, Sem.run_pure, Result.andThen_ok, hpt, q2, run_newRow]
    ·simp only [if_neg h0] at q2 ⊢
     simp only [Sem.run_bind, hzv, Sem.run_pure, Result.andThen_ok, hpt, q2, run_newRow]
   ·simp [Prog.exec] at he
  ·simp [Prog.exec] at he
 ·simp [Prog.exec] at he
theorem wrap_small {n : Int} (h0 : 0 ≤ n) (h1 : n ≤ 2 ^ 36) : IntKind.i64.wrap n = n := by
 simp only [IntKind.wrap, IntKind.bits, IntKind.signed]
 simp
 omega
theorem run_askRoom {P : Program} (n : Nat) : (askRoom n).run P w = .ok () w := by
 unfold askRoom
 split
 ·rfl
 ·rfl
include hT in
theorem makeSlice_yield (h : Rel K β ω Z s a w) {t : TypeId} {l c : Operand} {dst : Nat} {o : Oper} (ho : o.op = .makeSlice t l c) {v : SV} {s' : St} (he : (aval cfg o.op dst).exec s = some (v, s')) :
  Yield K s' a dst ((execOp a.eval o).run K.P w) v := by
 rw [ho] at he
 simp only [aval] at he
 obtain ⟨c1, s1, h1, he2⟩ := exec_bind' he
 obtain ⟨hs1, o1, r1, hno1⟩ := ev1_spec h h1
 rw [hs1] at he2
 obtain ⟨n, s2, h2, he3⟩ := exec_bind' he2
 obtain ⟨hs2, k, hc1⟩ := cInt_spec h2
 rw [hs2] at he3
 obtain ⟨c2, s3, h3, he4⟩ := exec_bind' he3
 obtain ⟨hs3, o3, r3, hno3⟩ := ev1_spec h h3
 rw [hs3] at he4
 obtain ⟨m, s4, h4, he5⟩ := exec_bind' he4
 obtain ⟨hs4, k', hc2⟩ := cInt_spec h4
 rw [hs4] at he5
 subst hc1; subst hc2
 have e1 : a.eval l = .int k n := r1
 have e2 : a.eval c = .int k' m := r3
 unfold makeSliceP at he5
 split at he5
 ·rename_i size bytes et zz hti
  split at he5
  ·rename_i i hft
   split at he5
   ·rename_i z hz
    obtain ⟨_, s5, h5, he6⟩ := exec_bind' he5
    obtain ⟨⟨hzl, hpos, hby, hmp⟩, hs5⟩ := exec_need h5
    rw [hs5] at he6
    obtain ⟨_, s6, h6, he7⟩ := exec_bind' he6
    obtain ⟨⟨hn0, hnm, hm⟩, hs6⟩ := exec_need h6
    rw [hs6] at he7
    obtain ⟨hx, hs7⟩ := exec_ret he7
    subst hx; rw [hs7]
    obtain ⟨zv, hzv, hrf⟩ := run_zeroValue (w := w) (hT.T _ _ hft) hz
    obtain ⟨info, hinfo, hin1, hin2, _⟩ := run_typeInfo (w := w) (hT.T _ _ hft)
    obtain ⟨d, hd, hk, hun⟩ := run_underlying' (w := w) (hT.T _ _ hti)
    have hd2 := tk_slice hk
    subst hd2
    have hzd := reflectAll_rel' (w := w) (Z := Z) hrf
    have hzs : zv.cells.size = i.size := by have := hzd.length; simp at this; omega
    have hcells : ((Array.range (m.toNat * i.size)).map ((if m.toNat * i.size = 0 then #[] else zv.cells)[· % (if m.toNat * i.size = 0 then #[] else zv.cells).size]!)).toList = (List.replicate m.toNat zv.cells.toList).flatten := by
     split
     ·rename_i h0
      have : m.toNat = 0 := by rcases Nat.mul_eq_zero.1 h0 with h | h <;> omega
      rw [this]
      simp
     ·rw [← hzs]
      exact zeroRow zv.cells m.toNat
    have hw1 := wrap_small hn0 (Int.le_trans hnm hm)
    have hw2 := wrap_small (Int.le_trans hn0 hnm) hm
    have hbig : ∀ x : Int, 0 ≤ x → x ≤ 2 ^ 36 → ¬ (x < 0 ∨ (i.bytes : Int) * x > 2 ^ 48) := by
     intro x hx0 hx1
     have h1 : (i.bytes : Int) * x ≤ 2 ^ 10 * 2 ^ 36 := Int.mul_le_mul (by exact_mod_cast hby) hx1 hx0 (by decide)
     have h2 : (2 : Int) ^ 10 * 2 ^ 36 ≤ 2 ^ 48 := by decide
     omega
    refine newRow_yield (hm := hmp) h (len := n.toNat) (cap := m.toNat) (ws := (Array.range (m.toNat * i.size)).map ((if m.toNat * i.size = 0 then #[] else zv.cells)[· % (if m.toNat * i.size = 0 then #[] else zv.cells).size]!)) (el := et) ?_ (by simp) (by omega) (by simp) (by intro r hr; rw [List.eq_of_mem_replicate hr, hzl]) (fun j d hj => by
     have hj' : (List.replicate m.toNat z).flatten[j]? = some d := by
      rw [show m.toNat = n.toNat + (m.toNat - n.toNat) by omega, ← List.replicate_append_replicate, List.flatten_append, List.getElem?_append_left (List.getElem?_eq_some_iff.1 hj).1]
      exact hj
     obtain ⟨u, g1, g2⟩ := (replicate_DL hzd m.toNat).get hj'
     rw [← hcells] at g1
     exact ⟨u, by rw [← Array.getElem?_toList]; exact g1, g2⟩)
    simp only [execOp, ho, Instr.makeSlice, Sem.run_bind, hun, Result.andThen_ok, e1, e2, Go.asInt, asIntOf, Sem.run_pure, hinfo, hw1, hw2, hin2]
    rw [if_neg (by
     simp only [Bool.or_eq_true, decide_eq_true_eq]
     have := hbig m (by omega) hm
     omega)]
    simp only [Sem.run_bind, run_askRoom, Result.andThen_ok, run_sizeOf (hT.T _ _ hft)]
    by_cases h0 : m.toNat * i.size = 0
    ·simp only [if_pos h0]
     simp only [Sem.run_bind, Sem.run_pure, Result.andThen_ok, run_newRow]
    ·simp only [if_neg h0]
     simp only [Sem.run_bind, hzv, Sem.run_pure, Result.andThen_ok, run_newRow]
   ·simp [Prog.exec] at he5
  ·simp [Prog.exec] at he5
 ·simp [Prog.exec] at he5
theorem growBy_le : ∀ (rounds need c : Nat), c ≤ 2 * need + 192 → Builtin.growBy need rounds c ≤ 2 * need + 192
 | 0, need, c, h => h
 | r + 1, need, c, h => by
  simp only [Builtin.growBy]
  split
  ·exact h
  ·rename_i hlt
   exact growBy_le r need _ (by omega)
theorem nextslicecap_le {need old : Nat} (h : old < need) : Builtin.nextslicecap need old ≤ 2 * need + 192 := by
 unfold Builtin.nextslicecap
 split
 ·omega
 ·split
  ·omega
  ·exact growBy_le 4 need old (by omega)
def Adds (K : Ctx) (Z : Nat → Prop) (w : World) (size : Nat) (u : Value) (ys : List (List D)) : Prop :=
 (Builtin.lenOf u).run K.P w = .ok ys.length w ∧ (∀ y ∈ ys, y.length = size) ∧ ∃ arr : Array Value, (∀ W : World, W.heap = w.heap → (Builtin.firstCells size ys.length u).run K.P W = .ok arr W) ∧ DL w Z arr.toList ys.flatten ∧ (∀ x ∈ arr.toList, isOne x = true)
theorem isOne_of_drel {d : D} {u : Value} (h : DRel w Z d u) : isOne u = true := by
 cases d <;> simp only [DRel] at h
 ·subst h; rfl
 ·subst h; rfl
 ·subst h; rfl
 ·subst h; rfl
 ·split at h
  ·obtain ⟨ad, cap, rfl, _⟩ := h; rfl
  ·obtain ⟨b, rfl, _⟩ := h; exact mpV_one ..
 ·rename_i k; cases k <;> simp only [NulRel] at h <;> (subst h; rfl)
theorem DL.isOne {us : List Value} {ds : List D} (h : DL w Z us ds) : ∀ x ∈ us, isOne x = true := by
 intro x hx
 obtain ⟨j, hj⟩ := List.getElem?_of_mem hx
 have hjl : j < ds.length := by rw [← h.length]; exact (List.getElem?_eq_some_iff.1 hj).1
 obtain ⟨u, h1, h2⟩ := h.get (List.getElem?_eq_getElem hjl)
 rw [hj] at h1
 cases h1
 exact isOne_of_drel h2
theorem adds_slice {size : Nat} {u : Value} {ys : List (List D)} (h : (u = .slice none 0 0 ∧ ys = []) ∨ ∃ ad cap, u = .slice (some ad) ys.length cap ∧ (cap = 0 ∨ ad.spot = none) ∧ ys.length ≤ cap ∧ RowsRel w Z size ys ad.block ad.off) : Adds K Z w size u ys := by
 rcases h with ⟨rfl, rfl⟩ | ⟨ad, cap, rfl, h2, h3, h4⟩
 ·exact ⟨by simp [Builtin.lenOf], by simp, #[], fun W _ => by simp [Builtin.firstCells], trivial, by simp⟩
 ·obtain ⟨us, g1, g2, g3⟩ := h4.us
  refine ⟨by simp [Builtin.lenOf], h4.len, us.toArray, fun W hW => ?_, by simpa using g1, by simpa using g1.isOne⟩
  simp only [Builtin.firstCells]
  have hl : us.length = ys.length * size := g2
  rw [← hl]
  by_cases h0 : us.length = 0
  ·rw [h0]
   have : us = [] := List.length_eq_zero_iff.1 h0
   subst this
   simp [loadCells, loadCellsFrom]
  ·have hc0 : cap ≠ 0 := by
    rintro rfl
    have : ys.length = 0 := by omega
    rw [this] at hl
    omega
   have h2 := h2.resolve_left hc0
   rw [show (ad : Addr) = ⟨ad.block, ad.off, none⟩ by rw [← h2]]
   have hlast := g3 (us.length - 1) (by omega)
   rw [List.getElem?_eq_getElem (by omega)] at hlast
   obtain ⟨ws, el, fz, hw, hws⟩ := cells_of_cell? hlast
   have hlt : ad.off + us.length ≤ ws.size := by
    have := (Array.getElem?_eq_some_iff.1 hws).1
    omega
   rw [run_loadCells (w := W) (by rw [hW]; exact hw) hlt]
   congr 1
   apply Array.toList_inj.1
   apply List.ext_getElem?
   intro j
   simp only [Array.toList_extract, List.extract_eq_take_drop, List.getElem?_take, List.getElem?_drop]
   by_cases hj : j < us.length
   ·rw [if_pos (by omega), ← g3 j hj]
    simp [World.cell?, hw]
   ·rw [if_neg (by omega), List.getElem?_eq_none (by simpa using hj)]
theorem adds_str (l : List UInt8) : Adds K Z w 1 (.string ⟨l.toArray⟩) (l.map fun b => [.int .u8 b.toNat]) := by
 refine ⟨by simp [Builtin.lenOf, str_size], by simp, (l.map fun b : UInt8 => Value.int .u8 (b.toNat : Nat)).toArray, fun W hW => ?_, ?_, ?_⟩
 ·simp only [Builtin.firstCells, str_extract, List.length_map, List.take_length, List.drop_zero, Sem.run_pure]
  simp
 ·show All2 _ _ _
  simp only
  induction l with
  | nil => trivial
  | cons b l ih => exact ⟨rfl, by simpa using ih⟩
 ·simp [isOne]
include hT in
theorem added_spec (h : Rel K β ω Z s a w) {i : TI} {t : TypeId} {c : C} {u : Value} {ys : List (List D)} {s' : St} (hcu : CRel K β Z s a w c u) (he : (addedP cfg i t c).exec s = some (ys, s')) :
  s' = s ∧ Adds K Z w i.size u ys ∧ ∃ d, (underlying t).run K.P w = .ok d w ∧ ∀ k, d ≠ .int k := by
 unfold addedP at he
 split at he
 ·rename_i l hti
  obtain ⟨_, s1, h1, he2⟩ := exec_bind' he
  obtain ⟨hsz, hs1⟩ := exec_need h1
  obtain ⟨hx, hs2⟩ := exec_ret he2
  subst hx
  obtain ⟨d, hd, hk, hun⟩ := run_underlying' (w := w) (hT.T _ _ hti)
  have hd2 := tk_str hk
  subst hd2
  have e1 : u = .string ⟨l.toArray⟩ := hcu
  exact ⟨by rw [hs2, hs1], by rw [hsz, e1]; exact adds_str l, _, hun, by simp⟩
 ·rename_i hti
  obtain ⟨hs, g⟩ := elems_spec h hcu he
  obtain ⟨d, hd, hk, hun⟩ := run_underlying' (w := w) (hT.T _ _ hti)
  have hd2 := tk_slice hk
  subst hd2
  exact ⟨hs, adds_slice g, _, hun, by simp⟩
 ·simp [Prog.exec] at he
end
end Go.Vs
namespace Go.Vs
section
variable {K : Ctx} {β : Key → Option Nat} {ω : Nat → Option Holder} {Z : Nat → Prop} {s : St} {a : Act} {w : World} {cfg : Cfg} (hT : Tabs K.P cfg)
theorem zeroCells_size (z : Array Value) (n : Nat) : (Builtin.zeroCells z n).size = n * z.size := by simp [Builtin.zeroCells]
theorem run_append_grow {P : Program} {t t2 et : TypeId} {i : TI} {z : List D} (hun : (underlying t).run P w = .ok (.slice et) w) {d2 : TypeDesc} (hun2 : (underlying t2).run P w = .ok d2 w) (hd2 : ∀ k, d2 ≠ .int k)
  (hi : tiOf P et = some i) (hz : i.zero = some z) (hb0 : 0 < i.bytes) (hb : i.bytes ≤ 2 ^ 10) {base : Option Addr} {sLen sCap n : Nat} {x : Value} (hlen : (Builtin.lenOf x).run P w = .ok n w) (hgt : sCap < sLen + n) (hbound : sLen + n ≤ 2 ^ 36)
  {old new : Array Value} (hold : ∀ W : World, W.heap = w.heap → (Builtin.firstCells i.size sLen (.slice base sLen sCap)).run P W = .ok old W) (hnew : ∀ W : World, W.heap = w.heap → (Builtin.firstCells i.size n x).run P W = .ok new W) {ty : TypeId} :
  ∃ (cap : Nat) (rest : Array Value), sLen + n ≤ cap ∧ (∀ zs : Nat, zs = z.length → rest.size = (cap - (sLen + n)) * zs) ∧
   (Builtin.append_ #[t, t2] ty #[.slice base sLen sCap, x]).run P w = .ok (.slice (some ⟨w.heap.size, 0, none⟩) (sLen + n) cap) (({ w with drawn := w.drawn + 1 } : World).alloc (.cells (old ++ new ++ rest) et)) := by
 obtain ⟨info, hinfo, hin1, hin2, _⟩ := run_typeInfo (w := w) hi
 obtain ⟨info', hinfo', hin1', hin2', _⟩ := run_typeInfo (w := { w with drawn := w.drawn + 1 }) hi
 obtain ⟨zv, hzv, hrf⟩ := run_zeroValue (w := { w with drawn := w.drawn + 1 }) hi hz
 have hzd := (reflectAll_rel' (w := w) (Z := fun _ => True) hrf).length
 have hnext := nextslicecap_le hgt
 have hnb : ¬ (Builtin.nextslicecap (sLen + n) sCap * i.bytes > 2 ^ 48) := by
  have h1 : Builtin.nextslicecap (sLen + n) sCap * i.bytes ≤ (2 * 2 ^ 36 + 192) * 2 ^ 10 := Nat.mul_le_mul (by omega) hb
  have h2 : (2 * 2 ^ 36 + 192) * 2 ^ 10 ≤ 2 ^ 48 := by decide
  omega
 refine ⟨(Question.appendCap (sLen + n) sCap et).cut (w.tape w.drawn (.appendCap (sLen + n) sCap et)), Builtin.zeroCells zv.cells ((Question.appendCap (sLen + n) sCap et).cut (w.tape w.drawn (.appendCap (sLen + n) sCap et)) - (sLen + n)), ?_, ?_, ?_⟩
 ·simp only [Question.cut]; omega
 ·intro zs hzs
  rw [zeroCells_size]
  have : zv.cells.size = z.length := by simpa using hzd
  rw [this, hzs]
 ·have hz2 : (match d2 with | .int _ => true | _ => false) = false := by cases d2 <;> first | rfl | exact absurd rfl (hd2 _)
  have hchoose : (choose (.appendCap (sLen + n) sCap et)).run P w = .ok ((Question.appendCap (sLen + n) sCap et).cut (w.tape w.drawn (.appendCap (sLen + n) sCap et))) { w with drawn := w.drawn + 1 } := by
   simp [choose, Sem.run, Question.forced]
  simp only [Builtin.append_, Array.getElem?_toList, List.getElem?_toArray, List.getElem?_cons_zero, List.getElem?_cons_succ, Sem.run_bind, hun, Result.andThen_ok, run_sizeOf hi, hun2, Sem.run_pure, hz2, Bool.false_eq_true, if_false, hlen, Bool.not_false, if_true]
  rw [if_neg (by omega)]
  simp only [Sem.run_bind, hinfo, Result.andThen_ok, hin2]
  rw [if_neg (by simp; omega)]
  simp only [Sem.run_bind, hinfo, Result.andThen_ok, hin2]
  rw [if_neg hnb]
  simp only [Sem.run_bind, hchoose, Result.andThen_ok, hinfo', run_askRoom, hold { w with drawn := w.drawn + 1 } rfl, hnew { w with drawn := w.drawn + 1 } rfl, hzv, run_newRow, Sem.run_pure]
theorem run_append_in {P : Program} {t t2 et : TypeId} {i : TI} (hun : (underlying t).run P w = .ok (.slice et) w) {d2 : TypeDesc} (hun2 : (underlying t2).run P w = .ok d2 w) (hd2 : ∀ k, d2 ≠ .int k)
  (hi : tiOf P et = some i) {base : Option Addr} {sLen sCap n : Nat} {x : Value} (hlen : (Builtin.lenOf x).run P w = .ok n w) (hle : sLen + n ≤ sCap)
  {new : Array Value} (hnew : (Builtin.firstCells i.size n x).run P w = .ok new w) {w' : World} (hst : ∀ ad, base = some ad → (storeCells (ad.add (sLen * i.size)) new.toList).run P w = .ok () w') (hnone : base = none → w' = w) {ty : TypeId} :
  (Builtin.append_ #[t, t2] ty #[.slice base sLen sCap, x]).run P w = .ok (.slice base (sLen + n) sCap) w' := by
 have hz2 : (match d2 with | .int _ => true | _ => false) = false := by cases d2 <;> first | rfl | exact absurd rfl (hd2 _)
 simp only [Builtin.append_, List.getElem?_toArray, List.getElem?_cons_zero, List.getElem?_cons_succ, Sem.run_bind, hun, Result.andThen_ok, run_sizeOf hi, hun2, Sem.run_pure, hz2, Bool.false_eq_true, if_false, hlen, Bool.not_false, if_true]
 rw [if_pos hle]
 simp only [Sem.run_bind, hnew, Result.andThen_ok]
 cases base with
 | none => rw [hnone rfl]; rfl
 | some ad => simp only [Sem.run_bind, hst ad rfl, Result.andThen_ok, Sem.run_pure]
theorem run_append_make {P : Program} {t t2 et : TypeId} {i : TI} {z : List D} (hun : (underlying t).run P w = .ok (.slice et) w) (hun2 : (underlying t2).run P w = .ok (.int .i64) w)
  (hi : tiOf P et = some i) (hz : i.zero = some z) (hzs : z.length = i.size) (hs0 : 0 < i.size) (hb0 : 0 < i.bytes) (hb : i.bytes ≤ 2 ^ 10) {k : IntKind} {n : Int} (hn : 0 ≤ n) (hbound : n ≤ 2 ^ 36) {ty : TypeId} :
  (n.toNat = 0 → (Builtin.append_ #[t, t2] ty #[.slice none 0 0, .int k n]).run P w = .ok (.slice none 0 0) w) ∧
  (n.toNat ≠ 0 → ∃ (cap : Nat) (zv : Array Value), n.toNat ≤ cap ∧ (∀ (w : World) (Z : Nat → Prop), DL w Z zv.toList z) ∧
   (Builtin.append_ #[t, t2] ty #[.slice none 0 0, .int k n]).run P w = .ok (.slice (some ⟨w.heap.size, 0, none⟩) n.toNat cap) (({ w with drawn := w.drawn + 1 } : World).alloc (.cells (Builtin.zeroCells zv n.toNat ++ Builtin.zeroCells zv (cap - n.toNat)) et))) := by
 obtain ⟨info, hinfo, hin1, hin2, _⟩ := run_typeInfo (w := w) hi
 obtain ⟨info', hinfo', hin1', hin2', _⟩ := run_typeInfo (w := { w with drawn := w.drawn + 1 }) hi
 obtain ⟨zv, hzv, hrf⟩ := run_zeroValue (w := { w with drawn := w.drawn + 1 }) hi hz
 have hzd : ∀ (w : World) (Z : Nat → Prop), DL w Z zv.cells.toList z := fun w Z => reflectAll_rel' (w := w) (Z := Z) hrf
 have hw : IntKind.i64.wrap n = n := by
  simp only [IntKind.wrap, IntKind.bits, IntKind.signed]
  simp
  omega
 have hbytes : n * i.bytes ≤ 2 ^ 48 := by
  have h1 : n * i.bytes ≤ 2 ^ 36 * 2 ^ 10 := Int.mul_le_mul (by omega) (by omega) (by omega) (by decide)
  omega
 constructor
 ·intro h0
  simp only [Builtin.append_, List.getElem?_toArray, List.getElem?_cons_zero, List.getElem?_cons_succ, Sem.run_bind, hun, Result.andThen_ok, run_sizeOf hi, hun2, Sem.run_pure, if_true, asInt, asIntOf, hw, hinfo, hin2]
  rw [if_neg (by omega)]
  simp only [Sem.run_bind, hinfo, Result.andThen_ok, hin2]
  rw [if_neg (by omega)]
  simp only [Sem.run_pure, Result.andThen_ok, h0]
  simp [Sem.run_pure, Sem.run_bind]
 ·intro h0
  have hgt : 0 < 0 + n.toNat := by omega
  have hnext := nextslicecap_le hgt
  have hnb : ¬ (Builtin.nextslicecap (0 + n.toNat) 0 * i.bytes > 2 ^ 48) := by
   have h1 : Builtin.nextslicecap (0 + n.toNat) 0 * i.bytes ≤ (2 * 2 ^ 36 + 192) * 2 ^ 10 := Nat.mul_le_mul (by omega) hb
   have h2 : (2 * 2 ^ 36 + 192) * 2 ^ 10 ≤ 2 ^ 48 := by decide
   omega
  have hchoose : (choose (.appendCap (0 + n.toNat) 0 et)).run P w = .ok ((Question.appendCap (0 + n.toNat) 0 et).cut (w.tape w.drawn (.appendCap (0 + n.toNat) 0 et))) { w with drawn := w.drawn + 1 } := by
   simp [choose, Sem.run, Question.forced]
  refine ⟨(Question.appendCap (0 + n.toNat) 0 et).cut (w.tape w.drawn (.appendCap (0 + n.toNat) 0 et)), zv.cells, ?_, hzd, ?_⟩
  ·simp only [Question.cut]; omega
  ·simp only [Builtin.append_, List.getElem?_toArray, List.getElem?_cons_zero, List.getElem?_cons_succ, Sem.run_bind, hun, Result.andThen_ok, run_sizeOf hi, hun2, Sem.run_pure, if_true, asInt, asIntOf, hw, hinfo, hin2]
   rw [if_neg (by omega)]
   simp only [Sem.run_bind, hinfo, Result.andThen_ok, hin2]
   rw [if_neg (by omega)]
   simp only [Sem.run_bind, Sem.run_pure, Result.andThen_ok]
   rw [if_neg (by omega)]
   simp only [Sem.run_bind, hinfo, Result.andThen_ok, hin2]
   rw [if_neg (by simp [IntKind.max, IntKind.bits, IntKind.signed]; omega)]
   simp only [Sem.run_bind, hinfo, Result.andThen_ok, hin2]
   rw [if_neg hnb]
   have hfc : (Builtin.firstCells i.size 0 (.slice none 0 0)).run P { w with drawn := w.drawn + 1 } = .ok #[] { w with drawn := w.drawn + 1 } := by simp [Builtin.firstCells]
   simp only [Sem.run_bind, hchoose, Result.andThen_ok, hinfo', run_askRoom, hfc]
   rw [if_neg (by simp), if_neg (by intro h; rcases Nat.mul_eq_zero.1 h with h | h <;> omega)]
   simp only [Sem.run_bind, hzv, Result.andThen_ok, Sem.run_pure, run_newRow]
   simp
include hT in
theorem cap_yield (h : Rel K β ω Z s a w) {args : Array Operand} {tys : Array TypeId} {dst : Nat} {o : Oper} (ho : o.op = .call { callee := .builtin .cap, args, argTypes := tys }) {v : SV} {s' : St} (he : (aval cfg o.op dst).exec s = some (v, s')) :
  Yield K s' a dst ((execOp a.eval o).run K.P w) v := by
 rw [ho] at he
 simp only [aval] at he
 split at he
 ·rename_i x t hx ht
  have hargs : args = #[x] := by apply Array.toList_inj.1; simpa using hx
  have htys : tys = #[t] := by apply Array.toList_inj.1; simpa using ht
  subst hargs; subst htys
  split at he
  ·rename_i hti
   obtain ⟨c1, s1, h1, he2⟩ := exec_bind' he
   obtain ⟨hs1, o1, r1, hno1⟩ := ev1_spec h h1
   rw [hs1] at he2
   unfold capP at he2
   split at he2
   ·have e1 : a.eval x = .slice none 0 0 := r1
    obtain ⟨rfl, rfl⟩ := exec_ret he2
    obtain ⟨d, hd, hk, hun⟩ := run_underlying' (w := w) (hT.T _ _ hti)
    have hdd := tk_slice hk
    subst hdd
    refine Yield.d h (u := .int .i64 0) ?_ rfl
    simp [execOp, ho, resolve, invoke, builtin, Builtin.cap_, e1, hun, goInt]
   ·simp [Prog.exec] at he2
  ·simp [Prog.exec] at he
 ·simp [Prog.exec] at he
include hT in
theorem appendMake_yield (h : Rel K β ω Z s a w) {x y : Operand} {t t2 et : TypeId} {i i0 i2 : TI} {dst : Nat} {o : Oper} (ho : o.op = .call { callee := .builtin .append, args := #[x, y], argTypes := #[t, t2] })
  (hti : cfg.ti t = some i0) (hk0 : i0.kind = .slice et) (hft : cfg.ti et = some i) (hti2 : cfg.ti t2 = some i2) (hk2 : i2.kind = .int .i64) {v : SV} {s' : St}
  (he : (do let c ← ev1 x; let n ← cInt (← ev1 y); appendMakeP i c n : Prog SV).exec s = some (v, s')) :
  Yield K s' a dst ((execOp a.eval o).run K.P w) v := by
 obtain ⟨c1, s1, h1, he2⟩ := exec_bind' he
 obtain ⟨hs1, o1, r1, hno1⟩ := ev1_spec h h1
 rw [hs1] at he2
 obtain ⟨c2, s2, h2, he3⟩ := exec_bind' he2
 obtain ⟨hs2, o2, r2, hno2⟩ := ev1_spec h h2
 rw [hs2] at he3
 obtain ⟨n, s3, h3, he4⟩ := exec_bind' he3
 obtain ⟨hs3, k, hc2⟩ := cInt_spec h3
 rw [hs3] at he4
 subst hc2
 have e2 : a.eval y = .int k n := r2
 unfold appendMakeP at he4
 split at he4
 ·rename_i z hz
  have e1 : a.eval x = .slice none 0 0 := r1
  obtain ⟨_, s5, h5, he5⟩ := exec_bind' he4
  obtain ⟨⟨hzs, hpos, hb0, hb, hmp⟩, hs5⟩ := exec_need h5
  rw [hs5] at he5
  obtain ⟨_, s6, h6, he6⟩ := exec_bind' he5
  obtain ⟨⟨hn0, hn1⟩, hs6⟩ := exec_need h6
  rw [hs6] at he6
  obtain ⟨d, hd, hk, hun⟩ := run_underlying' (w := w) (hT.T _ _ hti)
  rw [hk0] at hk
  have hdd := tk_slice hk
  subst hdd
  obtain ⟨d2, hd2, hk', hun2⟩ := run_underlying' (w := w) (hT.T _ _ hti2)
  rw [hk2] at hk'
  have hdd2 := tk_int hk'
  subst hdd2
  have hexec : (execOp a.eval o).run K.P w = ((Builtin.append_ #[t, t2] o.type #[a.eval x, a.eval y]).run K.P w).andThen fun u w' => .ok (.value u) w' := by
   simp [execOp, ho, resolve, invoke, builtin]
  obtain ⟨q0, q1⟩ := run_append_make (P := K.P) (w := w) hun hun2 (hT.T _ _ hft) hz hzs hpos hb0 hb (k := k) hn0 hn1 (ty := o.type)
  split at he6
  ·rename_i hn
   obtain ⟨hx', hs7⟩ := exec_ret he6
   rw [hs7, hx']
   refine Yield.d h (u := .slice none 0 0) ?_ rfl
   rw [hexec, e1, e2, q0 hn]
   rfl
  ·rename_i hn
   obtain ⟨hx', hs7⟩ := exec_ret he6
   rw [hs7, hx']
   obtain ⟨cap, zv, p1, p2, p3⟩ := q1 hn
   obtain ⟨r5, k5⟩ := h.drew
   have hsz : zv.size = i.size := by have := (p2 w Z).length; simp at this; omega
   refine newRow_yield (hm := hmp) r5 (len := n.toNat) (cap := cap) (ws := Builtin.zeroCells zv n.toNat ++ Builtin.zeroCells zv (cap - n.toNat)) (el := et) ?_ (by simp) p1 ?_ (by intro r hr; rw [List.eq_of_mem_replicate hr, hzs]) (fun j d hj => ?_)
   ·rw [hexec, e1, e2, p3]; rfl
   ·simp only [Array.size_append, zeroCells_size, hsz]
    rw [← Nat.add_mul]
    exact Nat.mul_le_mul_right _ (by omega)
   ·have hcells : (Builtin.zeroCells zv n.toNat).toList = (List.replicate n.toNat zv.toList).flatten := zeroRow zv n.toNat
    obtain ⟨u, g1, g2⟩ := (replicate_DL (p2 { w with drawn := w.drawn + 1 } Z) n.toNat).get hj
    refine ⟨u, ?_, g2⟩
    rw [← hcells] at g1
    have hlt : j < (Builtin.zeroCells zv n.toNat).size := by simpa using (List.getElem?_eq_some_iff.1 g1).1
    rw [Array.getElem?_append_left hlt, ← Array.getElem?_toList]
    exact g1
 ·simp [Prog.exec] at he4
include hT in
theorem append_yield (h : Rel K β ω Z s a w) {args : Array Operand} {tys : Array TypeId} {dst : Nat} {o : Oper} (ho : o.op = .call { callee := .builtin .append, args, argTypes := tys }) {v : SV} {s' : St} (he : (aval cfg o.op dst).exec s = some (v, s')) :
  Yield K s' a dst ((execOp a.eval o).run K.P w) v := by
 rw [ho] at he
 simp only [aval] at he
 split at he
 ·rename_i x y t t2 hx ht
  have hargs : args = #[x, y] := by apply Array.toList_inj.1; simpa using hx
  have htys : tys = #[t, t2] := by apply Array.toList_inj.1; simpa using ht
  subst hargs; subst htys
  split at he
  ·rename_i size bytes et zz hti
   split at he
   ·rename_i i hft
    split at he
    ·rename_i hti2
     exact appendMake_yield hT h ho hti rfl hft hti2 rfl he
    rename_i hnot2
    obtain ⟨c1, s1, h1, he2⟩ := exec_bind' he
    obtain ⟨hs1, o1, r1, hno1⟩ := ev1_spec h h1
    rw [hs1] at he2
    obtain ⟨c2, s2, h2, he3⟩ := exec_bind' he2
    obtain ⟨hs2, o2, r2, hno2⟩ := ev1_spec h h2
    rw [hs2] at he3
    obtain ⟨ys, s3, h3, he4⟩ := exec_bind' he3
    obtain ⟨hs3, ⟨hlen, hyl, arr, harr, hdl, hone⟩, d2, hun2, hd2⟩ := added_spec hT h r2 h3
    rw [hs3] at he4
    obtain ⟨d, hd, hk, hun⟩ := run_underlying' (w := w) (hT.T _ _ hti)
    have hdd := tk_slice hk
    subst hdd
    have hexec : (execOp a.eval o).run K.P w = ((Builtin.append_ #[t, t2] o.type #[a.eval x, a.eval y]).run K.P w).andThen fun u w' => .ok (.value u) w' := by
     simp [execOp, ho, resolve, invoke, builtin]
    unfold appendP at he4
    obtain ⟨_, s4, h4, he5⟩ := exec_bind' he4
    obtain ⟨⟨hpos, hb0, hb, hzl, hmp⟩, hs4⟩ := exec_need h4
    rw [hs4] at he5
    obtain ⟨z, hz⟩ : ∃ z, i.zero = some z := by
     cases hzz : i.zero with
     | none => rw [hzz] at hzl; cases hzl
     | some z => exact ⟨z, rfl⟩
    have hzs : z.length = i.size := by rw [hz] at hzl; simpa using hzl
    have harrl : arr.size = ys.length * i.size := by
     have := hdl.length
     rw [flatten_len hyl] at this
     simpa using this
    split at he5
    ·
     have e1 : a.eval x = .slice none 0 0 := r1
     obtain ⟨_, s5, h5, he6⟩ := exec_bind' he5
     obtain ⟨hmax, hs5⟩ := exec_need h5
     rw [hs5] at he6
     split at he6
     ·rename_i hnil
      obtain ⟨hx', hs6⟩ := exec_ret he6
      rw [hs6, hx']
      refine Yield.d h (u := .slice none 0 0) ?_ rfl
      rw [hexec, e1, run_append_in hun hun2 hd2 (hT.T _ _ hft) hlen (by rw [hnil]; simp) (harr w rfl) (w' := w) (by intro ad h; cases h) (fun _ => rfl)]
      simp [hnil]
     ·rename_i hnil
      obtain ⟨hx', hs6⟩ := exec_ret he6
      rw [hs6, hx']
      have hy0 : 0 < ys.length := List.length_pos_iff.2 hnil
      obtain ⟨cap, rest, q1, q2, q3⟩ := run_append_grow (P := K.P) (w := w) hun hun2 hd2 (hT.T _ _ hft) hz hb0 hb hlen (base := none) (sLen := 0) (sCap := 0) (by omega) (by omega) (old := #[]) (fun W _ => by simp [Builtin.firstCells]) harr (ty := o.type)
      obtain ⟨r5, k5⟩ := h.drew
      refine newRow_yield (hm := hmp) r5 (len := ys.length) (cap := cap) (ws := #[] ++ arr ++ rest) (el := et) ?_ rfl (by omega) ?_ hyl (fun j d hj => ?_)
      ·rw [hexec, e1, q3]; simp
      ·have := q2 i.size hzs.symm
       simp only [Array.size_append, harrl, this, Array.size_empty]
       rw [Nat.zero_add, Nat.zero_add, ← Nat.add_mul]
       exact Nat.mul_le_mul_right _ (by omega)
      ·obtain ⟨u, g1, g2⟩ := hdl.get hj
       refine ⟨u, ?_, DRel.mono (w := w) (w' := { w with drawn := w.drawn + 1 }) (Z := Z) (Z' := Z) (fun b hb => ⟨rfl, hb⟩) _ _ g2⟩
       have hjl : j < arr.size := by simpa using (List.getElem?_eq_some_iff.1 g1).1
       rw [Array.getElem?_append_left (by simp; omega), Array.empty_append]
       simpa using g1
    ·rename_i r j hv cv e k xs
     simp only [Prog.exec] at he5
     obtain ⟨_, s5, h5, he6⟩ := exec_bind' he5
     obtain ⟨⟨hhv, hcv, hei, hra⟩, hs5⟩ := exec_need h5
     rw [hs5] at he6
     split at he6
     ·rename_i e0 zs hat
      obtain ⟨_, s6, h6, he7⟩ := exec_bind' he6
      obtain ⟨hfull, hs6⟩ := exec_need h6
      rw [hs6] at he7
      obtain ⟨_, s7, h7, he8⟩ := exec_bind' he7
      obtain ⟨hmax, hs7⟩ := exec_need h7
      rw [hs7] at he8
      obtain ⟨_, s8, h8, he9⟩ := exec_bind' he8
      obtain ⟨hx', hs9⟩ := exec_ret he9
      rw [hs9, hx']
      have hmp1 : isMap e = false := by rw [hei]; exact hmp
      obtain ⟨ad, cap, e1, g2, g3, g4⟩ := bor_rows' h hmp1 r1 hhv hcv (alive_of_own hat)
      obtain ⟨ad', cap', f1, _, _, _, ad0, len0, cap0, ys0, f2, f3, f4, f4b, f5, f6, f7⟩ := bor_rows h hmp1 r1 hhv hcv (alive_of_own hat)
      rw [e1] at f1
      cases f1
      obtain ⟨e9, ys9, u9, b9, ω', t1, t2', t3, t4, t6, t7, t8, t9, t10⟩ := takeAt_spec h hra h8 (.tmp dst, some 0)
      rw [t2'] at f2
      cases f2
      simp only [blkOf, Option.some.injEq] at t3
      subst t3
      rw [hat] at t1
      cases t1
      have hee : e0 = e := by
       rcases f6 with f6 | f6 <;> rw [hat] at f6 <;> cases f6; rfl
      subst hee
      have hmp0 : isMap e0 = false := hmp1
      have hd1 : DL w Z arr.toList ys.flatten := hdl
      by_cases hcap : xs.length + ys.length ≤ cap
      ·
       have hblk : ad.block = ad0.block := f3
       obtain ⟨ws, el, lo, hi, w1, w2, w3⟩ := t9
       have hfit : ad.off + cap * e0 ≤ ws.size := by omega
       have hfit2 : xs.length * e0 + ys.length * e0 ≤ cap * e0 := by rw [← Nat.add_mul]; exact Nat.mul_le_mul_right _ hcap
       obtain ⟨w', ws', p1, p2, p3⟩ := run_storeCells (P := K.P) (b := ad.block) (o := ad.off + xs.length * e0) arr.toList 0 w ws (by rw [hblk]; exact w1) w3 (by simp only [Array.length_toList, harrl, ← hei]; omega) hone
       have hws' : ws'.toList = splice ws.toList (ad.off + xs.length * e0) arr.toList := by simpa using p3
       rw [hblk] at p2
       obtain ⟨n1, n2, n3, n4⟩ := t6.writeFree t8 t10 p2
       have hZ : ∀ b, Z b → w'.heap[b]? = w.heap[b]? ∧ Z b := fun b hb => ⟨p2.other b (fun e => (t6.ωok _ _ t8).1 (e ▸ hb)), hb⟩
       have hcell : ∀ q, w'.cell? ⟨ad.block, q, none⟩ = if ad.off + xs.length * e0 ≤ q ∧ q < ad.off + xs.length * e0 + ys.length * e0 then (arr.toList)[q - (ad.off + xs.length * e0)]? else w.cell? ⟨ad.block, q, none⟩ := by
        intro q
        have h1 : w'.cell? ⟨ad.block, q, none⟩ = ws'.toList[q]? := by simp [World.cell?, hblk, p2.here]
        rw [h1, hws', splice_get (by simp only [Array.length_toList, harrl, ← hei]; omega)]
        simp only [Array.length_toList, harrl, ← hei]
        split
        ·rfl
        ·simp [World.cell?, hblk, w1]
       have hrows : RowsRel w' Z e0 (xs ++ ys) ad.block ad.off := by
        refine RowsRel.append ?_ ?_
        ·refine RowsRel.of_get fun m x hm => ?_
         obtain ⟨q1, q2⟩ := g4.get hm
         refine ⟨q1, RowRel.of_get fun jj d hd => ?_⟩
         obtain ⟨u2, q3, q4⟩ := q2.get hd
         have hjl : jj < e0 := by rw [← q1]; exact (List.getElem?_eq_some_iff.1 hd).1
         have hml : m < xs.length := (List.getElem?_eq_some_iff.1 hm).1
         have : m * e0 + e0 ≤ xs.length * e0 := by rw [← Nat.succ_mul]; exact Nat.mul_le_mul_right _ hml
         exact ⟨u2, by rw [hcell, if_neg (by omega)]; exact q3, DRel.mono hZ _ _ q4⟩
        ·refine rowsOfCells (w := w') (ws := ws') (el := el) (fz := (lo, hi)) (by rw [hblk]; exact p2.here) ys _ (by rw [hei]; exact hyl) fun j d hj => ?_
         obtain ⟨u2, q1, q2⟩ := hd1.get hj
         have hjl : j < ys.length * e0 := by
          have := (List.getElem?_eq_some_iff.1 q1).1
          simpa [harrl, ← hei] using this
         refine ⟨u2, ?_, DRel.mono hZ _ _ q2⟩
         have : ws'[ad.off + xs.length * e0 + j]? = ws'.toList[ad.off + xs.length * e0 + j]? := by simp
         rw [this, hws', splice_get (by simp only [Array.length_toList, harrl, ← hei]; omega)]
         simp only [Array.length_toList, harrl, ← hei]
         rw [if_pos (by omega), Nat.add_sub_cancel_left]
         exact q1
       have hlen2 : (xs ++ ys).length = xs.length + ys.length := by simp
       have hown : CRel K β Z s8 a w' (.own e0 (xs ++ ys)) (.slice (some ad) (xs.length + ys.length) cap) := (CRel.own_sl hmp0).2 ⟨ad, cap, by rw [hlen2], g2, by rw [hlen2]; exact hcap, hrows⟩
       refine ⟨.slice (some ad) (xs.length + ys.length) cap, w', β, ω', Z, ?_, n1, ⟨rfl, hown⟩, ?_⟩
       ·rw [hexec, e1, run_append_in hun hun2 hd2 (hT.T _ _ hft) hlen hcap (harr w rfl) (w' := w') (by
         intro ad1 h1
         cases h1
         rw [add_of g2, ← hei]
         exact p1) (by intro h; cases h)]
        rfl
       ·intro j' c q hc hq
        have hj : j' = 0 := by
         simp only [SV.cells] at hc
         cases j' with
         | zero => rfl
         | succ j => simp at hc
        subst hj
        simp only [SV.cells, List.getElem?_cons_zero, Option.some.injEq] at hc
        simp only [flat, List.getElem?_cons_zero, Option.some.injEq] at hq
        subst hc; subst hq
        refine ⟨hown, fun e' xs' b2 q1 q2 => ?_⟩
        cases q1
        cases q2
        exact ⟨by rw [hblk]; exact t8, ⟨ws', el, lo, hi, by rw [hblk]; exact p2.here, by rw [p2.len]; exact hfit, fun q hq => w3 q (by rw [← p2.len]; exact hq)⟩, by rw [hblk]; exact n2⟩
      ·
       obtain ⟨cap1, rest, q1, q2, q3⟩ := run_append_grow (P := K.P) (w := w) hun hun2 hd2 (hT.T _ _ hft) hz hb0 hb hlen (base := some ad) (sLen := xs.length) (sCap := cap) (by omega) hmax (old := (g4.us.choose).toArray) (fun W hW => by
        obtain ⟨_, a2, a3⟩ := g4.us.choose_spec
        generalize g4.us.choose = us at a2 a3
        simp only [Builtin.firstCells]
        rw [show (ad : Addr) = ⟨ad.block, ad.off, none⟩ by rw [← g2], ← hei, ← a2]
        by_cases h0 : us.length = 0
        ·rw [h0]
         have : us = [] := List.length_eq_zero_iff.1 h0
         subst this
         simp [loadCells, loadCellsFrom]
        ·have hlast := a3 (us.length - 1) (by omega)
         rw [List.getElem?_eq_getElem (by omega)] at hlast
         obtain ⟨ws, el, fz, hw, hws⟩ := cells_of_cell? hlast
         have hlt : ad.off + us.length ≤ ws.size := by
          have := (Array.getElem?_eq_some_iff.1 hws).1
          omega
         rw [run_loadCells (w := W) (by rw [hW]; exact hw) hlt]
         congr 1
         apply Array.toList_inj.1
         apply List.ext_getElem?
         intro j
         simp only [Array.toList_extract, List.extract_eq_take_drop, List.getElem?_take, List.getElem?_drop]
         by_cases hj : j < us.length
         ·rw [if_pos (by omega), ← a3 j hj]
          simp [World.cell?, hw]
         ·rw [if_neg (by omega), List.getElem?_eq_none (by simpa using hj)]) harr (ty := o.type)
       obtain ⟨a1, a2, _⟩ := g4.us.choose_spec
       generalize g4.us.choose = us at a1 a2 q3
       obtain ⟨r5, k5⟩ := t6.drew
       have hfl : (xs ++ ys).flatten = xs.flatten ++ ys.flatten := by simp
       have hall : DL w Z (us ++ arr.toList) (xs ++ ys).flatten := by rw [hfl]; exact All2.append a1 hd1
       refine newRow_yield (hm := hmp0) r5 (len := xs.length + ys.length) (cap := cap1) (ws := us.toArray ++ arr ++ rest) (el := et) ?_ (by simp) (by omega) ?_ (by
        intro r hr
        rcases List.mem_append.1 hr with hr | hr
        ·exact g4.len r hr
        ·rw [hei]; exact hyl r hr) (fun j d hj => ?_)
       ·rw [hexec, e1, q3]; rfl
       ·have := q2 i.size hzs.symm
        simp only [Array.size_append, harrl, this, List.size_toArray, a2, hei]
        rw [← Nat.add_mul, ← Nat.add_mul]
        exact Nat.mul_le_mul_right _ (by omega)
       ·obtain ⟨u, g1', g2'⟩ := hall.get hj
        refine ⟨u, ?_, DRel.mono (w := w) (w' := { w with drawn := w.drawn + 1 }) (Z := Z) (Z' := Z) (fun b hb => ⟨rfl, hb⟩) _ _ g2'⟩
        have hjl : j < us.length + arr.size := by simpa using (List.getElem?_eq_some_iff.1 g1').1
        rw [Array.getElem?_append_left (by simpa using hjl)]
        have : (us.toArray ++ arr)[j]? = (us ++ arr.toList)[j]? := by rw [← Array.getElem?_toList]; simp
        rw [this]
        exact g1'
     ·simp [Prog.exec] at he6
    ·simp [Prog.exec] at he5
   ·simp [Prog.exec] at he
  ·simp [Prog.exec] at he
 ·simp [Prog.exec] at he
end
end Go.Vs
namespace Go.Vs
section
variable {K : Ctx} {β : Key → Option Nat} {ω : Nat → Option Holder} {Z : Nat → Prop} {s : St} {a : Act} {w : World} {cfg : Cfg} (hT : Tabs K.P cfg)
theorem newRow_yield' (h : Rel K β ω Z s a w) {e dst len cap lo hi : Nat} {ws : Array Value} {el : TypeId} {rows : List (List D)} {r : Result Next} {w' : World} (hr : r = .ok (.value (.slice (some ⟨w.heap.size, 0, none⟩) len cap)) w')
  (hheap : ∀ b, b < w.heap.size → w'.heap[b]? = w.heap[b]?) (hsize : w'.heap.size = w.heap.size + 1) (hos : w'.os = w.os) (htape : w'.tape = w.tape) (hout : w'.output = w.output)
  (hhere : w'.heap[w.heap.size]? = some (.cells ws el (lo, hi))) (hfz : ∀ o, o < ws.size → ¬ (lo ≤ o ∧ o < hi))
  (hl : rows.length = len) (hcap : len ≤ cap) (hws : cap * e ≤ ws.size) (hrow : ∀ r ∈ rows, r.length = e) (hd : ∀ (j : Nat) d, rows.flatten[j]? = some d → ∃ u, ws[j]? = some u ∧ DRel w Z d u) (hm : isMap e = false) :
  Yield K s a dst r (.one (.own e rows)) := by
 obtain ⟨r1, k1⟩ := h.grow (w' := w') (ω' := fun b => if b = w.heap.size then some (.tmp dst, some 0) else ω b) hheap (by omega) hos htape hout (fun b hb => by simp [Nat.ne_of_lt hb]) (fun b g' hb hg => by
  rw [hsize]
  by_cases hbb : b = w.heap.size
  ·omega
  ·rw [if_neg hbb] at hg; have := (h.ωok b _ hg).2.1; omega)
 have f1 : Free K β s a w' w.heap.size := by
  intro q l e' xs u' b' hq hc1 hh1 hb1 hb
  rw [h.hdr_grow hheap] at hh1
  have := (h.ωok _ _ (h.own q l e' xs u' b' hq hc1 hh1 hb1).1).2.1
  omega
 have hrows : RowsRel w' Z e rows w.heap.size 0 := by
  refine rowsOfCells hhere rows 0 hrow fun j d hj => ?_
  obtain ⟨u, q1, q2⟩ := hd j d hj
  exact ⟨u, by simpa using q1, DRel.mono (fun b hb => ⟨k1.heap b (h.zin b hb), hb⟩) _ _ q2⟩
 refine ⟨_, _, β, _, Z, hr, r1, ⟨rfl, (CRel.own_sl hm).2 ⟨⟨w.heap.size, 0, none⟩, cap, by rw [hl], rfl, by rw [hl]; exact hcap, hrows⟩⟩, ?_⟩
 intro j c x hc hx
 have hj : j = 0 := by
  simp only [SV.cells] at hc
  cases j with
  | zero => rfl
  | succ j => simp at hc
 subst hj
 simp only [SV.cells, List.getElem?_cons_zero, Option.some.injEq] at hc
 simp only [flat, List.getElem?_cons_zero, Option.some.injEq] at hx
 subst hc; subst hx
 refine ⟨(CRel.own_sl hm).2 ⟨⟨w.heap.size, 0, none⟩, cap, by rw [hl], rfl, by rw [hl]; exact hcap, hrows⟩, fun e' xs b q1 q2 => ?_⟩
 cases q1
 cases q2
 exact ⟨by simp, ⟨ws, el, lo, hi, hhere, by simpa using hws, hfz⟩, f1⟩
theorem run_toBytes {P : Program} (el : TypeId) (l : List UInt8) : ∃ (cap : Nat) (w' : World) (ws : Array Value), l.length ≤ cap ∧ (Conv.stringToBytes el ⟨l.toArray⟩).run P w = .ok (.slice (some ⟨w.heap.size, 0, none⟩) l.length cap) w' ∧
  (∀ b, b < w.heap.size → w'.heap[b]? = w.heap[b]?) ∧ w'.heap.size = w.heap.size + 1 ∧ w'.os = w.os ∧ w'.tape = w.tape ∧ w'.output = w.output ∧
  w'.heap[w.heap.size]? = some (.cells ws el (ws.size, ws.size + 1)) ∧ ws.size = cap ∧ ∀ (j : Nat), j < l.length → ws[j]? = (l[j]?).map fun b => .int .u8 b.toNat := by
 have hchoose : (choose (.appendCap l.length 0 el)).run P w = .ok ((Question.appendCap l.length 0 el).cut (w.tape w.drawn (.appendCap l.length 0 el))) { w with drawn := w.drawn + 1 } := by
  simp [choose, Sem.run, Question.forced]
 have hle : l.length ≤ (Question.appendCap l.length 0 el).cut (w.tape w.drawn (.appendCap l.length 0 el)) := by simp only [Question.cut]; omega
 generalize (Question.appendCap l.length 0 el).cut (w.tape w.drawn (.appendCap l.length 0 el)) = cap at hchoose hle
 let ws : Array Value := (l.toArray.map fun b => Value.int .u8 b.toNat) ++ Array.replicate (cap - l.length) (.int .u8 0)
 have hws : ws.size = cap := by simp [ws]; omega
 let w1 : World := ({ w with drawn := w.drawn + 1 } : World).alloc (.cells ws el)
 have h1 : w1.heap[w.heap.size]? = some (.cells ws el (0, 0)) := by show (w.heap.push _)[w.heap.size]? = _; simp
 refine ⟨cap, w1.freeze ⟨w.heap.size, ws.size, none⟩ 1, ws, hle, ?_, ?_, ?_, rfl, rfl, rfl, ?_, hws, ?_⟩
 ·simp only [Conv.stringToBytes, Sem.run_bind, str_size, hchoose, Result.andThen_ok]
  have hsh : (shape w.heap.size).run P w1 = .ok (some (el, ws.size)) w1 := by
   simp [shape, Sem.run, World.shape?, h1]
  show ((newRow el ws).run P { w with drawn := w.drawn + 1 }).andThen _ = _
  simp only [run_newRow, Result.andThen_ok]
  show ((markStringish ⟨w.heap.size, 0, none⟩).run P w1).andThen _ = _
  simp only [markStringish, Sem.run_bind, hsh, Result.andThen_ok]
  rfl
 ·intro b hb
  have hne : w.heap.size ≠ b := by omega
  show ((w1.freeze ⟨w.heap.size, ws.size, none⟩ 1).heap)[b]? = _
  simp only [World.freeze, Nat.one_ne_zero, if_false, Array.getElem?_modify, if_neg hne]
  show (w.heap.push _)[b]? = _
  rw [Array.getElem?_push, if_neg (by omega)]
 ·show ((w1.freeze ⟨w.heap.size, ws.size, none⟩ 1).heap).size = _
  simp only [World.freeze, Nat.one_ne_zero, if_false, Array.size_modify]
  show (w.heap.push _).size = _
  simp
 ·show ((w1.freeze ⟨w.heap.size, ws.size, none⟩ 1).heap)[w.heap.size]? = _
  simp only [World.freeze, Nat.one_ne_zero, if_false, Array.getElem?_modify, if_true, h1, Option.map_some]
  simp
 ·intro j hj
  show ((l.toArray.map fun b => Value.int .u8 b.toNat) ++ Array.replicate (cap - l.length) (.int .u8 0))[j]? = _
  rw [Array.getElem?_append_left (by simpa using hj)]
  simp
theorem flat_single {α γ : Type} (f : α → γ) : ∀ l : List α, (l.map fun b => [f b]).flatten = l.map f
 | [] => rfl
 | b :: l => by simp only [List.map_cons, List.flatten_cons, flat_single f l]; rfl
theorem forIn_bytes {P : Program} : ∀ (us : List Value) (l : List UInt8) (acc : List UInt8), All2 (fun u (b : UInt8) => ∃ n : Int, u = .int .u8 n ∧ b = UInt8.ofNat n.toNat) us l →
  (forIn us (ByteArray.mk acc.toArray) fun c (__s : ByteArray) =>
      match c with
      | Value.int IntKind.u8 n => (pure (ForInStep.yield (__s.push (UInt8.ofNat n.toNat))) : Sem (ForInStep ByteArray))
      | x => do
       stuck "bytesToString: byte expected"
       pure (ForInStep.yield __s)).run P w = .ok (ByteArray.mk (acc ++ l).toArray) w
 | [], [], acc, _ => by simp
 | u :: us, b :: l, acc, h => by
  obtain ⟨⟨n, rfl, rfl⟩, h2⟩ := h
  rw [List.forIn_cons]
  simp only [Sem.run_bind, Sem.run_pure, Result.andThen_ok]
  have hp : (ByteArray.mk acc.toArray).push (UInt8.ofNat n.toNat) = ByteArray.mk (acc ++ [UInt8.ofNat n.toNat]).toArray := by
   apply ByteArray.ext
   simp [ByteArray.push]
  rw [hp, forIn_bytes us l _ h2]
  simp
theorem run_ofBytes {P : Program} {u : Value} {xs : List (List D)} {l : List UInt8} (hu : (u = .slice none 0 0 ∧ xs = []) ∨ ∃ ad cap, u = .slice (some ad) xs.length cap ∧ (cap = 0 ∨ ad.spot = none) ∧ xs.length ≤ cap ∧ RowsRel w Z 1 xs ad.block ad.off)
  (hl : xs.mapM (fun x => match x with | [.int .u8 n] => some (UInt8.ofNat n.toNat) | _ => none) = some l) : (Conv.bytesToString u).run P w = .ok (.string ⟨l.toArray⟩) w := by
 rcases hu with ⟨rfl, rfl⟩ | ⟨ad, cap, rfl, h2, h3, h4⟩
 ·simp at hl
  subst hl
  rfl
 ·have hx := adds_slice (K := { P := P, N := 0, base := 0, w0 := w, E0 := fun _ => False, Z0 := fun _ => False, argv := #[], β0 := fun _ => none }) (w := w) (Z := Z) (size := 1) (u := .slice (some ad) xs.length cap) (ys := xs) (.inr ⟨ad, cap, rfl, h2, h3, h4⟩)
  obtain ⟨_, _, arr, harr, hdl, _⟩ := hx
  have harr' := harr w rfl
  simp only [Builtin.firstCells, Nat.mul_one] at harr'
  have key : ∀ (xs : List (List D)) (us : List Value) (l : List UInt8), DL w Z us xs.flatten → xs.mapM (fun x => match x with | [.int .u8 n] => some (UInt8.ofNat n.toNat) | _ => none) = some l →
    All2 (fun u (b : UInt8) => ∃ n : Int, u = .int .u8 n ∧ b = UInt8.ofNat n.toNat) us l := by
   intro xs
   induction xs with
   | nil =>
    intro us l hd hm
    simp at hm
    subst hm
    cases us with
    | nil => trivial
    | cons _ _ => exact hd.elim
   | cons x xs ih =>
    intro us l hd hm
    rw [List.mapM_cons] at hm
    match x, hm with
    | [.int .u8 n], hm =>
     cases hm2 : xs.mapM (fun x => match x with | [.int .u8 n] => some (UInt8.ofNat n.toNat) | _ => none) with
     | none => simp [hm2] at hm
     | some l' =>
      simp [hm2] at hm
      subst hm
      cases us with
      | nil => exact hd.elim
      | cons u us => exact ⟨⟨n, hd.1, rfl⟩, ih us l' hd.2 hm2⟩
    | [], hm => simp at hm
    | .bool _ :: _, hm => simp at hm
    | .str _ :: _, hm => simp at hm
    | .nil :: _, hm => simp at hm
    | .sl _ _ :: _, hm => simp at hm
    | .nul _ :: _, hm => simp at hm
    | .int k n :: y :: r, hm => simp at hm
    | [.int .i8 n], hm => simp at hm
    | [.int .i16 n], hm => simp at hm
    | [.int .i32 n], hm => simp at hm
    | [.int .i64 n], hm => simp at hm
    | [.int .u16 n], hm => simp at hm
    | [.int .u32 n], hm => simp at hm
    | [.int .u64 n], hm => simp at hm
  have hf := forIn_bytes (P := P) (w := w) arr.toList l [] (key xs _ l hdl hl)
  simp only [Conv.bytesToString, Sem.run_bind, harr', Result.andThen_ok]
  rw [← Array.forIn_toList]
  have he : ByteArray.empty = ByteArray.mk ([] : List UInt8).toArray := rfl
  rw [he]
  exact (congrArg (fun r : Result ByteArray => r.andThen fun a w' => Sem.run P (pure (Value.string a)) w') hf).trans (by simp)
include hT in
theorem convert_yield (h : Rel K β ω Z s a w) {src dst' : TypeId} {x : Operand} {dst : Nat} {o : Oper} (ho : o.op = .convert src dst' x) {v : SV} {s' : St} (he : (aval cfg o.op dst).exec s = some (v, s')) :
  Yield K s' a dst ((execOp a.eval o).run K.P w) v := by
 rw [ho] at he
 simp only [aval] at he
 obtain ⟨v1, s1, h1, he2⟩ := exec_bind' he
 obtain ⟨hs1, hv, hno, hnu⟩ := ev_spec h h1
 rw [hs1] at he2
 have hexec : (execOp a.eval o).run K.P w = ((convert src dst' (a.eval x)).run K.P w).andThen fun u w' => .ok (.value u) w' := by
  simp only [execOp, ho, Sem.run_bind, Sem.run_pure]
 unfold convertP at he2
 split at he2
 ·rename_i i1 _ _ k _ _ n hi1 hi2
  obtain ⟨d1, _, _, hun1⟩ := run_underlying' (w := w) (hT.T _ _ hi1)
  obtain ⟨d2, _, hk2, hun2⟩ := run_underlying' (w := w) (hT.T _ _ hi2)
  have hd2 := tk_int hk2
  subst hd2
  obtain ⟨hx, hs2⟩ := exec_ret he2
  rw [hx, hs2]
  have e1 := hv.2
  simp only [CRel, DRel] at e1
  refine Yield.d (d := .int k (k.wrap n)) h (u := .int k (k.wrap n)) ?_ rfl
  rw [hexec, e1]
  simp only [convert, Sem.run_bind, hun1, hun2, Result.andThen_ok, Conv.intToInt, Sem.run_pure]
 ·rename_i l hi1 hi2
  obtain ⟨d1, _, _, hun1⟩ := run_underlying' (w := w) (hT.T _ _ hi1)
  obtain ⟨d2, _, hk2, hun2⟩ := run_underlying' (w := w) (hT.T _ _ hi2)
  have hd2 := tk_str hk2
  subst hd2
  obtain ⟨hx, hs2⟩ := exec_ret he2
  rw [hx, hs2]
  have e1 := hv.2
  simp only [CRel, DRel] at e1
  refine Yield.d (d := .str l) h (u := .string ⟨l.toArray⟩) ?_ rfl
  rw [hexec, e1]
  simp only [convert, Sem.run_bind, hun1, hun2, Result.andThen_ok, Sem.run_pure]
 ·rename_i et z l hi1 hi2
  obtain ⟨d1, _, _, hun1⟩ := run_underlying' (w := w) (hT.T _ _ hi1)
  obtain ⟨d2, _, hk2, hun2⟩ := run_underlying' (w := w) (hT.T _ _ hi2)
  have hd2 := tk_slice hk2
  subst hd2
  split at he2
  ·rename_i hi3
   obtain ⟨d3, _, hk3, hun3⟩ := run_underlying' (w := w) (hT.T _ _ hi3)
   have hd3 := tk_int hk3
   subst hd3
   obtain ⟨hx, hs2⟩ := exec_ret he2
   rw [hx, hs2]
   have e1 := hv.2
   simp only [CRel, DRel] at e1
   obtain ⟨cap, w', ws, q1, q2, q3, q4, q5, q6, q7, q8, q9, q10⟩ := run_toBytes (P := K.P) (w := w) et l
   refine newRow_yield' (hm := by decide) h (w' := w') (len := l.length) (cap := cap) (lo := ws.size) (hi := ws.size + 1) (ws := ws) (el := et) ?_ q3 q4 q5 q6 q7 q8 (by omega) (by simp) q1 (by omega) (by simp) (fun j d hj => ?_)
   ·rw [hexec, e1]
    simp only [convert, Sem.run_bind, hun1, hun2, hun3, Result.andThen_ok, q2]
   ·rw [flat_single, List.getElem?_map] at hj
    cases hlj : l[j]? with
    | none => rw [hlj] at hj; cases hj
    | some b =>
     rw [hlj] at hj
     simp only [Option.map_some, Option.some.injEq] at hj
     subst hj
     refine ⟨.int .u8 b.toNat, ?_, rfl⟩
     rw [q10 j (List.getElem?_eq_some_iff.1 hlj).1, hlj]
     rfl
  ·simp [Prog.exec] at he2
 ·rename_i et z c hi1 hi2
  obtain ⟨d1, _, hk1, hun1⟩ := run_underlying' (w := w) (hT.T _ _ hi1)
  have hd1 := tk_slice hk1
  subst hd1
  obtain ⟨d2, _, hk2, hun2⟩ := run_underlying' (w := w) (hT.T _ _ hi2)
  have hd2 := tk_str hk2
  subst hd2
  split at he2
  ·rename_i hi3
   obtain ⟨d3, _, hk3, hun3⟩ := run_underlying' (w := w) (hT.T _ _ hi3)
   have hd3 := tk_int hk3
   subst hd3
   obtain ⟨xs, s2, h2, he3⟩ := exec_bind' he2
   obtain ⟨hs2, g⟩ := elems_spec h hv.2 h2
   rw [hs2] at he3
   split at he3
   ·rename_i l hl
    obtain ⟨hx, hs3⟩ := exec_ret he3
    rw [hx, hs3]
    have hrun := run_ofBytes (P := K.P) g hl
    refine Yield.d (d := .str l) h (u := .string ⟨l.toArray⟩) ?_ rfl
    rw [hexec]
    rcases g with ⟨e1, _⟩ | ⟨ad, cap, e1, _⟩
    ·rw [e1] at hrun ⊢
     simp only [convert, Sem.run_bind, hun1, hun2, hun3, Result.andThen_ok, hrun]
    ·rw [e1] at hrun ⊢
     simp only [convert, Sem.run_bind, hun1, hun2, hun3, Result.andThen_ok, hrun]
   ·simp [Prog.exec] at he3
  ·simp [Prog.exec] at he2
 ·simp [Prog.exec] at he2
end
end Go.Vs
namespace Go.Vs
def entrySt (args : List SV) (boxes : List (List C)) : St
 | .tmp _ => {}
 | .arg i => { v := args.getD i .undef }
 | .box (.inb i) => { v := match boxes[i]? with | some cs => .agg cs | none => .undef }
 | .box _ => {}
def exitSt (args : List SV) (r : CallRes) : St
 | .tmp 0 => { v := r.v }
 | .tmp _ => {}
 | .arg i => { v := (frzArgs r.frz args).getD i .undef }
 | .box (.inb i) => { v := match r.boxes[i]? with | some cs => .agg cs | none => .undef }
 | .box _ => {}
def ctxOf (P : Program) (N : Nat) (w : World) (vals : Array Value) (β : Key → Option Nat) (ω : Nat → Option Holder) (Z : Nat → Prop) : Ctx :=
 { P, N, base := w.heap.size, w0 := w, E0 := fun b => ω b ≠ none, Z0 := Z, argv := vals, β0 := β }
def FnOK (P : Program) (f : FuncId) (F : AFun) : Prop :=
 ∀ (args : List SV) (boxes : List (List C)) (r : CallRes), F args boxes = some r → ∀ (w : World) (vals : Array Value) (β : Key → Option Nat) (ω : Nat → Option Holder) (Z : Nat → Prop),
  vals.size = args.length → Rel (ctxOf P 0 w vals β ω Z) β ω Z (entrySt args boxes) { tmps := #[], defers := [] } w →
  Calls P f vals w fun e w' => ∃ v β' ω' Z', e = .returned v ∧ Rel (ctxOf P 1 w vals β ω Z) β' ω' Z' (exitSt args r) { tmps := #[v], defers := [] } w'
section
variable {K : Ctx} {β : Key → Option Nat} {ω : Nat → Option Holder} {Z : Nat → Prop} {s : St} {a : Act} {w : World} {cfg : Cfg}
theorem prepC_spec (h : Rel K β ω Z s a w) {c c' : C} {u : Value} {s' : St} (hcu : CRel K β Z s a w c u) (hno : NoOwn c) (he : (prepC cfg c).exec s = some (c', s')) :
  ∃ ω' Z', Rel K β ω' Z' s' a w ∧ Calm K β a ω Z s w ω' Z' s' w ∧ CRel K β Z' s' a w c' u ∧ NoOwn c' := by
 unfold prepC at he
 split at he
 ·split at he
  ·obtain ⟨rfl, rfl⟩ := exec_ret he; exact ⟨ω, Z, h, Calm.refl, hcu, hno⟩
  ·obtain ⟨x, s1, h1, he2⟩ := exec_bind' he
   obtain ⟨hx, hs⟩ := exec_ret he2
   rw [hx, hs]
   obtain ⟨ω', Z', r1, k1, d1⟩ := toD_spec h hcu h1
   exact ⟨ω', Z', r1, k1, d1, by simp [NoOwn]⟩
 ·obtain ⟨rfl, rfl⟩ := exec_ret he; exact ⟨ω, Z, h, Calm.refl, hcu, hno⟩
theorem prepCs_spec : ∀ (cs : List C) (us : List Value) (ω : Nat → Option Holder) (Z : Nat → Prop) (s s' : St) (cs' : List C), Rel K β ω Z s a w → All2 (fun u c => CRel K β Z s a w c u) us cs → (∀ c ∈ cs, NoOwn c) →
  (prepCs cfg cs).exec s = some (cs', s') → ∃ ω' Z', Rel K β ω' Z' s' a w ∧ Calm K β a ω Z s w ω' Z' s' w ∧ All2 (fun u c => CRel K β Z' s' a w c u) us cs' ∧ (∀ c ∈ cs', NoOwn c) := by
 intro cs
 induction cs with
 | nil =>
  intro us ω Z s s' cs' h hall hno he
  obtain ⟨hx, hs⟩ := exec_ret he
  subst hx; subst hs
  cases us with
  | nil => exact ⟨ω, Z, h, Calm.refl, trivial, by simp⟩
  | cons u us => exact hall.elim
 | cons c cs ih =>
  intro us ω Z s s' cs' h hall hno he
  cases us with
  | nil => exact hall.elim
  | cons u us =>
   simp only [prepCs] at he
   obtain ⟨c1, s1, h1, he1⟩ := exec_bind' he
   obtain ⟨cs1, s2, h2, he2⟩ := exec_bind' he1
   obtain ⟨hx, hs⟩ := exec_ret he2
   subst hx; subst hs
   obtain ⟨ω1, Z1, r1, k1, p1, q1⟩ := prepC_spec h hall.1 (hno c (List.mem_cons_self ..)) h1
   have hno' : ∀ x ∈ cs, NoOwn x := fun x hx => hno x (List.mem_cons_of_mem _ hx)
   obtain ⟨ω2, Z2, r2, k2, p2, q2⟩ := ih us ω1 Z1 s1 _ cs1 r1 (hall.2.mono_mem fun u c hc hr => k1.crel h.zin (fun e xs _ hx _ => absurd hx (hno' c hc e xs)) hr) hno' h2
   refine ⟨ω2, Z2, r2, k1.trans k2, ⟨k2.crel r1.zin (fun e xs _ hx _ => absurd hx (q1 e xs)) p1, p2⟩, fun x hx => ?_⟩
   rcases List.mem_cons.1 hx with rfl | hx
   ·exact q1
   ·exact q2 x hx
def VRel (K : Ctx) (β : Key → Option Nat) (Z : Nat → Prop) (s : St) (a : Act) (w : World) (u : Value) (v : SV) : Prop := SVRel (CRel K β Z s a w) u v ∧ (∀ c ∈ v.cells, NoOwn c) ∧ v ≠ .undef
theorem VRel.lift {ω' : Nat → Option Holder} {Z' : Nat → Prop} {s' : St} {w' : World} (hr : Rel K β ω Z s a w) (k : Calm K β a ω Z s w ω' Z' s' w') {u : Value} {v : SV} (h : VRel K β Z s a w u v) : VRel K β Z' s' a w' u v :=
 ⟨SVRel.mono (fun c _ hc hcu => k.crel hr.zin (fun e xs _ hx _ => absurd hx (h.2.1 c hc e xs)) hcu) h.1, h.2⟩
theorem prepSV_spec (h : Rel K β ω Z s a w) {v v' : SV} {u : Value} {s' : St} (hv : VRel K β Z s a w u v) (he : (prepSV cfg v).exec s = some (v', s')) :
  ∃ ω' Z', Rel K β ω' Z' s' a w ∧ Calm K β a ω Z s w ω' Z' s' w ∧ VRel K β Z' s' a w u v' := by
 cases v with
 | one c =>
  simp only [prepSV] at he
  obtain ⟨c1, s1, h1, he2⟩ := exec_bind' he
  obtain ⟨hx, hs⟩ := exec_ret he2
  subst hx; subst hs
  obtain ⟨ω1, Z1, r1, k1, p1, q1⟩ := prepC_spec h hv.1.2 (hv.2.1 c (by simp [SV.cells])) h1
  exact ⟨ω1, Z1, r1, k1, ⟨hv.1.1, p1⟩, by simpa [SV.cells] using q1, by simp⟩
 | agg cs =>
  simp only [prepSV] at he
  obtain ⟨c1, s1, h1, he2⟩ := exec_bind' he
  obtain ⟨hx, hs⟩ := exec_ret he2
  subst hx; subst hs
  obtain ⟨ws, hu, hall⟩ := hv.1
  obtain ⟨ω1, Z1, r1, k1, p1, q1⟩ := prepCs_spec cs ws.toList ω Z s _ _ h hall (fun c hc => hv.2.1 c hc) h1
  exact ⟨ω1, Z1, r1, k1, ⟨ws, hu, p1⟩, q1, by simp⟩
 | tup x => simp [prepSV, Prog.exec] at he
 | undef => simp [prepSV, Prog.exec] at he
theorem prepSVs_spec : ∀ (vs : List SV) (us : List Value) (ω : Nat → Option Holder) (Z : Nat → Prop) (s s' : St) (vs' : List SV), Rel K β ω Z s a w → All2 (VRel K β Z s a w) us vs →
  (prepSVs cfg vs).exec s = some (vs', s') → ∃ ω' Z', Rel K β ω' Z' s' a w ∧ Calm K β a ω Z s w ω' Z' s' w ∧ All2 (VRel K β Z' s' a w) us vs' := by
 intro vs
 induction vs with
 | nil =>
  intro us ω Z s s' vs' h hall he
  obtain ⟨hx, hs⟩ := exec_ret he
  subst hx; subst hs
  cases us with
  | nil => exact ⟨ω, Z, h, Calm.refl, trivial⟩
  | cons u us => exact hall.elim
 | cons v vs ih =>
  intro us ω Z s s' vs' h hall he
  cases us with
  | nil => exact hall.elim
  | cons u us =>
   simp only [prepSVs] at he
   obtain ⟨v1, s1, h1, he1⟩ := exec_bind' he
   obtain ⟨vs1, s2, h2, he2⟩ := exec_bind' he1
   obtain ⟨hx, hs⟩ := exec_ret he2
   subst hx; subst hs
   obtain ⟨ω1, Z1, r1, k1, p1⟩ := prepSV_spec h hall.1 h1
   obtain ⟨ω2, Z2, r2, k2, p2⟩ := ih us ω1 Z1 s1 _ vs1 r1 (All2.mono (fun _ _ hr => VRel.lift h k1 hr) hall.2) h2
   exact ⟨ω2, Z2, r2, k1.trans k2, VRel.lift r1 k2 p1, p2⟩
def idxβ (ks : List Key) (β : Key → Option Nat) : Key → Option Nat
 | .inb i => if i < ks.length then β (ks.getD i default) else none
 | _ => none
def idxω (ks : List Key) (ω : Nat → Option Holder) (b : Nat) : Option Holder :=
 match ω b with
 | some (.box k, j) => if k ∈ ks then some (.box (.inb (idx k ks)), j) else none
 | _ => none
theorem idx_lt : ∀ {ks : List Key} {k : Key}, k ∈ ks → idx k ks < ks.length ∧ ks[idx k ks]? = some k
 | k' :: ks, k, h => by
  simp only [idx]
  split
  ·rename_i e; subst e; simp
  ·rename_i e
   have : k ∈ ks := by
    rcases List.mem_cons.1 h with h | h
    ·exact absurd h e
    ·exact h
   obtain ⟨h1, h2⟩ := idx_lt this
   exact ⟨by simp; omega, by simpa using h2⟩
theorem idxβ_of {ks : List Key} {k : Key} (h : k ∈ ks) (β : Key → Option Nat) : idxβ ks β (.inb (idx k ks)) = β k := by
 obtain ⟨h1, h2⟩ := idx_lt h
 simp only [idxβ, h1, if_true, List.getD_eq_getElem?_getD, h2, Option.getD_some]
theorem idx_get : ∀ {ks : List Key} (_ : ks.Nodup) {i : Nat} {k : Key}, ks[i]? = some k → idx k ks = i
 | [], _, _, _, h => by simp at h
 | k' :: ks, hn, 0, k, h => by
  simp only [List.getElem?_cons_zero, Option.some.injEq] at h
  subst h
  simp [idx]
 | k' :: ks, hn, i + 1, k, h => by
  simp only [List.getElem?_cons_succ] at h
  have hne : k ≠ k' := by
   rintro rfl
   exact (List.nodup_cons.1 hn).1 (List.mem_of_getElem? h)
  simp only [idx, if_neg hne, idx_get (List.nodup_cons.1 hn).2 h]
theorem dedup_nodup : ∀ (l : List Key), (dedup l).Nodup
 | [] => List.nodup_nil
 | k :: r => by
  simp only [dedup]
  exact List.nodup_cons.2 ⟨by simp, (dedup_nodup r).filter _⟩
theorem mem_dedup : ∀ {l : List Key} {k : Key}, k ∈ l → k ∈ dedup l
 | k' :: r, k, h => by
  simp only [dedup, List.mem_cons, List.mem_filter, decide_eq_true_eq]
  by_cases e : k = k'
  ·exact .inl e
  ·exact .inr ⟨mem_dedup (by simpa [e] using h), e⟩
theorem keysOf_mem : ∀ {cs : List C} {c : C} {k : Key}, c ∈ cs → k ∈ keysOf [c] → k ∈ keysOf cs
 | c' :: cs, c, k, hc, hk => by
  rcases List.mem_cons.1 hc with rfl | hc
  ·cases c <;> simp_all [keysOf]
  ·have := keysOf_mem hc hk
   cases c' <;> simp_all [keysOf]
theorem canon_spec (h : Rel K β ω Z s a w) {ks : List Key} {c c' : C} {u : Value} {s' : St} (hcu : CRel K β Z s a w c u) (hno : NoOwn c) (hk : ∀ k ∈ keysOf [c], k ∈ ks) (he : (canon ks c).exec s = some (c', s')) :
  s' = s ∧ (∀ (K₀ : Ctx) (s₀ : St) (a₀ : Act), CRel K₀ (idxβ ks β) Z s₀ a₀ w c' u) ∧ (∀ (e : Nat) (xs : List (List D)) (b : Nat), c' = .own e xs → blkOf u = some b → idxω ks ω b = none ∧ b < w.heap.size) := by
 unfold canon at he
 split at he
 ·obtain ⟨hx, hs⟩ := exec_ret he
  subst hx
  exact ⟨hs, fun _ _ _ => hcu, by simp⟩
 ·rename_i r j hv cv e k xs
  simp only [Prog.exec] at he
  obtain ⟨_, s1, h1, he2⟩ := exec_bind' he
  obtain ⟨⟨hhv, hcv⟩, hs1⟩ := exec_need h1
  rw [hs1] at he2
  have hal' : (s r).at j ≠ .dead := by
   intro hd
   rw [hd] at he2
   simp [Prog.exec] at he2
  obtain ⟨ys, u0, b0, f6, f2, f3, f4, f5, _, f8⟩ := bor_any h hcu hhv hcv hal'
  rcases f6 with f6 | f6
  ·rw [f6] at he2
   simp only at he2
   obtain ⟨_, s2, h2, he3⟩ := exec_bind' he2
   obtain ⟨hnb, hs2⟩ := exec_need h2
   rw [hs2] at he3
   obtain ⟨hx, hs⟩ := exec_ret he3
   subst hx
   refine ⟨hs, fun _ _ _ => OwnRel.iff.2 f5, fun e' xs' b1 q1 q2 => ?_⟩
   rw [f4] at q2
   cases q2
   by_cases hra : r.isArg = true
   ·cases r with
    | arg i =>
     obtain ⟨p1, p2⟩ := h.argown i j e ys u0 b0 (at_cells f6 (by simp)) f2 f3
     refine ⟨?_, Nat.lt_of_lt_of_le p1 h.base⟩
     have : ω b0 = none := by
      cases hω : ω b0 with
      | none => rfl
      | some g => exact absurd ((h.ωok _ _ hω).2.2 p1) p2
     simp [idxω, this]
    | tmp t => simp [Res.isArg] at hra
    | box k => simp [Res.isArg] at hra
   ·obtain ⟨p1, p2⟩ := h.own r j e ys u0 b0 (by simpa using hra) (at_cells f6 (by simp)) f2 f3
    refine ⟨?_, (h.ωok _ _ p1).2.1⟩
    unfold idxω
    rw [p1]
    cases r with
    | box k0 =>
     simp only
     rw [if_neg]
     intro hm
     exact hnb k0 hm rfl
    | tmp t => rfl
    | arg i => rfl
  ·rw [f6] at he2
   simp only at he2
   obtain ⟨hx, hs⟩ := exec_ret he2
   subst hx
   refine ⟨hs, fun _ _ _ => f8 Z (fun b hb => hb) (h.frozen f6 f2 f3), by simp⟩
 ·rename_i k off
  obtain ⟨hx, hs⟩ := exec_ret he
  subst hx
  obtain ⟨b, g1, g2⟩ := hcu
  exact ⟨hs, fun _ _ _ => ⟨b, by rw [idxβ_of (hk k (by simp [keysOf]))]; exact g1, g2⟩, by simp⟩
 ·rename_i f caps
  obtain ⟨hx, hs⟩ := exec_ret he
  subst hx
  obtain ⟨vs, g1, g2⟩ := hcu
  refine ⟨hs, fun _ _ _ => ⟨vs, g1, ?_⟩, by simp⟩
  have key : ∀ (us : List Value) (caps : List (Key × Nat)), (∀ p ∈ caps, p.1 ∈ ks) → All2 (fun u (p : Key × Nat) => ∃ b, β p.1 = some b ∧ u = .pointer (some ⟨b, p.2, none⟩)) us caps →
    All2 (fun u (p : Key × Nat) => ∃ b, idxβ ks β p.1 = some b ∧ u = .pointer (some ⟨b, p.2, none⟩)) us (caps.map fun p => (.inb (idx p.1 ks), p.2)) := by
   intro us
   induction us with
   | nil => intro caps _ h; cases caps with | nil => trivial | cons _ _ => exact h.elim
   | cons u us ih =>
    intro caps hm h
    cases caps with
    | nil => exact h.elim
    | cons p caps =>
     obtain ⟨⟨b, q1, q2⟩, q3⟩ := h
     exact ⟨⟨b, by rw [idxβ_of (hm p (List.mem_cons_self ..))]; exact q1, q2⟩, ih caps (fun x hx => hm x (List.mem_cons_of_mem _ hx)) q3⟩
  exact key _ _ (fun p hp => hk p.1 (by simp [keysOf]; exact ⟨p.2, hp⟩)) g2
 ·simp [Prog.exec] at he
def CanV (ks : List Key) (β : Key → Option Nat) (ω : Nat → Option Holder) (Z : Nat → Prop) (w : World) (u : Value) (v : SV) : Prop :=
 (∀ (K₀ : Ctx) (s₀ : St) (a₀ : Act), SVRel (CRel K₀ (idxβ ks β) Z s₀ a₀ w) u v) ∧ (∀ (j e : Nat) (xs : List (List D)) (u1 : Value) (b : Nat), v.cells[j]? = some (.own e xs) → (flat u)[j]? = some u1 → blkOf u1 = some b → idxω ks ω b = none ∧ b < w.heap.size) ∧ v ≠ .undef
theorem canons_spec : ∀ (cs : List C) (us : List Value) (s' : St) (cs' : List C) {ks : List Key}, Rel K β ω Z s a w → All2 (fun u c => CRel K β Z s a w c u) us cs → (∀ c ∈ cs, NoOwn c) → (∀ k ∈ keysOf cs, k ∈ ks) →
  (canons ks cs).exec s = some (cs', s') → s' = s ∧ (∀ (K₀ : Ctx) (s₀ : St) (a₀ : Act), All2 (fun u c => CRel K₀ (idxβ ks β) Z s₀ a₀ w c u) us cs') ∧
   (∀ (j e : Nat) (xs : List (List D)) (u1 : Value) (b : Nat), cs'[j]? = some (.own e xs) → us[j]? = some u1 → blkOf u1 = some b → idxω ks ω b = none ∧ b < w.heap.size) := by
 intro cs
 induction cs with
 | nil =>
  intro us s' cs' ks h hall hno hk he
  obtain ⟨hx, hs⟩ := exec_ret he
  subst hx
  cases us with
  | nil => exact ⟨hs, fun _ _ _ => trivial, by simp⟩
  | cons u us => exact hall.elim
 | cons c cs ih =>
  intro us s' cs' ks h hall hno hk he
  cases us with
  | nil => exact hall.elim
  | cons u us =>
   simp only [canons] at he
   obtain ⟨c1, s1, h1, he1⟩ := exec_bind' he
   obtain ⟨hs1, p1, p2⟩ := canon_spec h hall.1 (hno c (List.mem_cons_self ..)) (fun k hk' => hk k (keysOf_mem (List.mem_cons_self ..) hk')) h1
   rw [hs1] at he1
   obtain ⟨cs1, s2, h2, he2⟩ := exec_bind' he1
   obtain ⟨hx, hs⟩ := exec_ret he2
   obtain ⟨hs2, q1, q2⟩ := ih us s2 cs1 h hall.2 (fun x hx => hno x (List.mem_cons_of_mem _ hx)) (fun k hk' => hk k (by cases c <;> simp_all [keysOf])) h2
   subst hx
   refine ⟨by rw [hs, hs2], fun K₀ s₀ a₀ => ⟨p1 K₀ s₀ a₀, q1 K₀ s₀ a₀⟩, fun j e xs u1 b1 hc hu hb1 => ?_⟩
   cases j with
   | zero =>
    simp only [List.getElem?_cons_zero, Option.some.injEq] at hc hu
    subst hu
    exact p2 e xs b1 hc hb1
   | succ j => exact q2 j e xs u1 b1 (by simpa using hc) (by simpa using hu) hb1
theorem keysOf_append (l m : List C) : keysOf (l ++ m) = keysOf l ++ keysOf m := by
 induction l with
 | nil => rfl
 | cons c l ih => cases c <;> simp [keysOf, ih]
theorem canonSVs_spec : ∀ (vs : List SV) (us : List Value) (s' : St) (vs' : List SV) {ks : List Key}, Rel K β ω Z s a w → All2 (VRel K β Z s a w) us vs → (∀ k ∈ keysOf (vs.flatMap SV.cells), k ∈ ks) →
  (canonSVs ks vs).exec s = some (vs', s') → s' = s ∧ All2 (CanV ks β ω Z w) us vs' := by
 intro vs
 induction vs with
 | nil =>
  intro us s' vs' ks h hall hk he
  obtain ⟨hx, hs⟩ := exec_ret he
  subst hx
  cases us with
  | nil => exact ⟨hs, trivial⟩
  | cons u us => exact hall.elim
 | cons v vs ih =>
  intro us s' vs' ks h hall hk he
  cases us with
  | nil => exact hall.elim
  | cons u us =>
   simp only [canonSVs] at he
   obtain ⟨v1, s1, h1, he1⟩ := exec_bind' he
   have hkv : ∀ k ∈ keysOf v.cells, k ∈ ks := fun k hk' => hk k (by simp only [List.flatMap_cons, keysOf_append]; exact List.mem_append_left _ hk')
   have hone : s1 = s ∧ CanV ks β ω Z w u v1 := by
    cases v with
    | one c =>
     simp only [canonSV] at h1
     obtain ⟨c1, s3, h3, he3⟩ := exec_bind' h1
     obtain ⟨hx, hs⟩ := exec_ret he3
     subst hx
     obtain ⟨hs1, p1, p2⟩ := canon_spec h hall.1.1.2 (hall.1.2.1 c (by simp [SV.cells])) (fun k hk' => hkv k (by simpa [SV.cells] using hk')) h3
     refine ⟨by rw [hs, hs1], fun K₀ s₀ a₀ => ⟨hall.1.1.1, p1 K₀ s₀ a₀⟩, fun j e xs u1 b1 hc hu hb1 => ?_, by simp⟩
     rw [flat_of_isOne hall.1.1.1] at hu
     cases j with
     | zero =>
      simp only [SV.cells, List.getElem?_cons_zero, Option.some.injEq] at hc hu
      subst hu
      exact p2 e xs b1 hc hb1
     | succ j => simp [SV.cells] at hc
    | agg cs =>
     simp only [canonSV] at h1
     obtain ⟨c1, s3, h3, he3⟩ := exec_bind' h1
     obtain ⟨hx, hs⟩ := exec_ret he3
     subst hx
     obtain ⟨ws, hu, hcs⟩ := hall.1.1
     obtain ⟨hs1, p1, p2⟩ := canons_spec cs ws.toList s3 c1 h hcs (fun c hc => hall.1.2.1 c hc) hkv h3
     refine ⟨by rw [hs, hs1], fun K₀ s₀ a₀ => ⟨ws, hu, p1 K₀ s₀ a₀⟩, fun j e xs u1 b1 hc hq hb1 => ?_, by simp⟩
     rw [hu] at hq
     exact p2 j e xs u1 b1 hc hq hb1
    | tup x => simp [canonSV, Prog.exec] at h1
    | undef => simp [canonSV, Prog.exec] at h1
   rw [hone.1] at he1
   obtain ⟨vs1, s2, h2, he2⟩ := exec_bind' he1
   obtain ⟨hx, hs⟩ := exec_ret he2
   subst hx
   obtain ⟨hs2, q⟩ := ih us s2 vs1 h hall.2 (fun k hk' => hk k (by simp only [List.flatMap_cons, keysOf_append]; exact List.mem_append_right _ hk')) h2
   exact ⟨by rw [hs, hs2], hone.2, q⟩
theorem getBoxes_spec {kk : List Key} : ∀ (ks : List Key) (s' : St) (bs : List (List C)), (getBoxes kk ks).exec s = some (bs, s') → s' = s ∧ bs.length = ks.length ∧ ∀ (i : Nat) (k : Key), ks[i]? = some k → ∃ cs, bs[i]? = some (cs.map (tc kk)) ∧ (s (.box k)).v = .agg cs ∧ cs.all (tok kk) = true := by
 intro ks
 induction ks with
 | nil =>
  intro s' bs he
  obtain ⟨hx, hs⟩ := exec_ret he
  subst hx
  exact ⟨hs, rfl, by simp⟩
 | cons k ks ih =>
  intro s' bs he
  simp only [getBoxes, Prog.exec] at he
  split at he
  ·rename_i cs hcs
   obtain ⟨_, s1, h1, he2⟩ := exec_bind' he
   obtain ⟨hp, hs1⟩ := exec_need h1
   rw [hs1] at he2
   obtain ⟨r, s2, h2, he3⟩ := exec_bind' he2
   obtain ⟨hx, hs⟩ := exec_ret he3
   subst hx
   obtain ⟨q1, q2, q3⟩ := ih s2 r h2
   refine ⟨by rw [hs, q1], by simp [q2], fun i k' hi => ?_⟩
   cases i with
   | zero => simp only [List.getElem?_cons_zero, Option.some.injEq] at hi; subst hi; exact ⟨cs, rfl, hcs, hp⟩
   | succ i => obtain ⟨cs', g1, g2⟩ := q3 i k' (by simpa using hi); exact ⟨cs', by simpa using g1, g2⟩
  ·simp [Prog.exec] at he
theorem boxKeys_spec : ∀ (ks : List Key) (s' : St) (l : List Key), (boxKeys ks).exec s = some (l, s') → s' = s := by
 intro ks
 induction ks with
 | nil => intro s' l he; exact (exec_ret he).2
 | cons k ks ih =>
  intro s' l he
  simp only [boxKeys, Prog.exec] at he
  split at he
  ·obtain ⟨r, s2, h2, he3⟩ := exec_bind' he
   rw [(exec_ret he3).2, ih s2 r h2]
  ·simp [Prog.exec] at he
theorem tok_mem {ks : List Key} {cs : List C} (h : cs.all (tok ks) = true) {c : C} (hc : c ∈ cs) : tok ks c = true := List.all_eq_true.1 h c hc
theorem crel_tc {K' : Ctx} {ks : List Key} {s' : St} {a' : Act} {c : C} {u : Value} (hp : tok ks c = true) (h : CRel K β Z s a w c u) : CRel K' (idxβ ks β) Z s' a' w (tc ks c) u := by
 cases c with
 | d x => exact h
 | own e xs => exact h
 | ptr k off =>
  obtain ⟨b, g1, g2⟩ := h
  exact ⟨b, by rw [idxβ_of (by simpa [tok] using hp)]; exact g1, g2⟩
 | dead => trivial
 | _ => cases hp
theorem tc_own {ks : List Key} {c : C} {e : Nat} {xs : List (List D)} (h : tc ks c = .own e xs) : c = .own e xs := by
 cases c <;> first | exact h | cases h
theorem All2.map_right {α β γ : Type} {R : α → β → Prop} {S : α → γ → Prop} {f : β → γ} : ∀ {us : List α} {cs : List β}, All2 R us cs → (∀ u c, c ∈ cs → R u c → S u (f c)) → All2 S us (cs.map f)
 | [], [], _, _ => trivial
 | _ :: _, _ :: _, h, g => ⟨g _ _ (List.mem_cons_self ..) h.1, All2.map_right h.2 fun u c hc => g u c (List.mem_cons_of_mem _ hc)⟩
theorem bok_tc {ks : List Key} {c : C} (h : tok ks c = true) : bok ks.length (tc ks c) = true := by
 cases c with
 | d x => rfl
 | own e xs => rfl
 | ptr k off => exact decide_eq_true (idx_lt (by simpa [tok] using h)).1
 | dead => rfl
 | _ => cases h
theorem crel_bok {K' : Ctx} {n : Nat} {s' : St} {a' : Act} {c : C} {u : Value} (hp : bok n c = true) (h : CRel K β Z s a w c u) : CRel K' β Z s' a' w c u := by
 cases c with
 | d x => exact h
 | own e xs => exact h
 | ptr k off => exact h
 | dead => trivial
 | _ => cases hp
theorem bok_mem {n : Nat} {cs : List C} (h : cs.all (bok n) = true) {c : C} (hc : c ∈ cs) : bok n c = true := List.all_eq_true.1 h c hc
theorem crel_plain {K' : Ctx} {β' : Key → Option Nat} {s' : St} {a' : Act} {c : C} {u : Value} (hp : plain c = true) (h : CRel K β Z s a w c u) : CRel K' β' Z s' a' w c u := by
 cases c <;> simp [plain] at hp <;> exact h
theorem plain_mem {cs : List C} (h : cs.all plain = true) {c : C} (hc : c ∈ cs) : plain c = true := List.all_eq_true.1 h c hc
theorem idxβ_some {ks : List Key} {β : Key → Option Nat} {k : Key} {b : Nat} (h : idxβ ks β k = some b) : ∃ i k', k = .inb i ∧ ks[i]? = some k' ∧ β k' = some b := by
 unfold idxβ at h
 split at h
 ·rename_i i
  split at h
  ·rename_i hi
   refine ⟨i, ks.getD i default, rfl, ?_, h⟩
   rw [List.getD_eq_getElem?_getD, List.getElem?_eq_getElem hi]
   rfl
  ·cases h
 ·cases h
theorem entry_rel (h : Rel K β ω Z s a w) {ks : List Key} (hnd : ks.Nodup) {us : List Value} {cargs : List SV} {bs : List (List C)} (hcan : All2 (CanV ks β ω Z w) us cargs) (hbl : bs.length = ks.length)
  (hb : ∀ (i : Nat) (k : Key), ks[i]? = some k → ∃ cs, bs[i]? = some (cs.map (tc ks)) ∧ (s (.box k)).v = .agg cs ∧ cs.all (tok ks) = true) :
  Rel (ctxOf K.P 0 w us.toArray (idxβ ks β) (idxω ks ω) Z) (idxβ ks β) (idxω ks ω) Z (entrySt cargs bs) { tmps := #[], defers := [] } w := by
 have hget : ∀ i, us.toArray.getD i undef = us.getD i undef := fun i => by simp [Array.getD_eq_getD_getElem?, List.getD_eq_getElem?_getD]
 have hargc : ∀ i (v : SV), cargs.getD i .undef = v → v ≠ .undef → CanV ks β ω Z w (us.getD i undef) v := by
  intro i v hv hne
  rw [List.getD_eq_getElem?_getD] at hv
  cases hc : cargs[i]? with
  | none => rw [hc] at hv; exact absurd hv.symm hne
  | some v' =>
   rw [hc] at hv
   simp only [Option.getD_some] at hv
   subst hv
   obtain ⟨u, g1, g2⟩ := hcan.get hc
   rw [List.getD_eq_getElem?_getD, g1]
   exact g2
 have hbox : ∀ (k : Key) (cs' : List C), (entrySt cargs bs (.box k)).v = .agg cs' → ∃ i k' cs, k = .inb i ∧ ks[i]? = some k' ∧ (s (.box k')).v = .agg cs ∧ cs' = cs.map (tc ks) ∧ cs.all (tok ks) = true := by
  intro k cs hk
  cases k with
  | inb i =>
   simp only [entrySt] at hk
   cases hbi : bs[i]? with
   | none => rw [hbi] at hk; cases hk
   | some cs' =>
    rw [hbi] at hk
    cases hk
    have hi : i < ks.length := by rw [← hbl]; exact (List.getElem?_eq_some_iff.1 hbi).1
    obtain ⟨cs2, g1, g2, g3⟩ := hb i _ (List.getElem?_eq_getElem hi)
    rw [hbi] at g1
    cases g1
    exact ⟨i, _, cs2, rfl, List.getElem?_eq_getElem hi, g2, rfl, g3⟩
  | loc t => simp [entrySt] at hk
  | esc t i => simp [entrySt] at hk
 have hω : ∀ (i : Nat) (k' : Key) (j : Option Nat) (b : Nat), ks[i]? = some k' → ω b = some (.box k', j) → idxω ks ω b = some (.box (.inb i), j) := by
  intro i k' j b hi hb
  have hm : k' ∈ ks := List.mem_of_getElem? hi
  simp only [idxω, hb, hm, if_true, idx_get hnd hi]
 refine ⟨rfl, rfl, rfl, rfl, rfl, Nat.le_refl _, fun _ _ _ => rfl, h.zin, fun _ h => h, fun b hb => .inl hb, ?_, ?_, ?_, ?_, ?_, ?_, fun _ _ h => h⟩
 ·intro t; exact trivial
 ·intro i
  show SVRel _ (us.toArray.getD i undef) (cargs.getD i .undef)
  rw [hget]
  by_cases hu : cargs.getD i .undef = .undef
  ·rw [hu]; trivial
  ·exact (hargc i _ rfl hu).1 _ _ _
 ·intro k
  cases hv : (entrySt cargs bs (.box k)).v with
  | agg cs =>
   obtain ⟨i, k', cs0, rfl, hi, g1, rfl, g2⟩ := hbox k cs hv
   obtain ⟨b, ws, el, lo, hi', f1, f2, f3, f4, f5⟩ := BoxRel.cell h g1
   refine ⟨b, ws, el, lo, hi', ?_, hω i k' none b hi f2, f3, f4, f5.map_right fun u c hc hr => crel_tc (tok_mem g2 hc) hr⟩
   have := idxβ_of (List.mem_of_getElem? hi) β
   rw [idx_get hnd hi] at this
   rw [this]
   exact f1
  | undef =>
   show idxβ ks β k = none
   cases hβ : idxβ ks β k with
   | none => rfl
   | some b =>
    obtain ⟨i, k', rfl, hi, g⟩ := idxβ_some hβ
    obtain ⟨cs, g1, g2, g3⟩ := hb i k' hi
    simp only [entrySt, g1] at hv
    cases hv
  | one c => cases k <;> simp only [entrySt] at hv <;> (try (split at hv)) <;> cases hv
  | tup c => cases k <;> simp only [entrySt] at hv <;> (try (split at hv)) <;> cases hv
 ·intro r j e xs u1 b1 hr hc hh hb1
  cases r with
  | tmp t => simp [entrySt, SV.cells] at hc
  | arg i => simp [Res.isArg] at hr
  | box k =>
   cases hv : (entrySt cargs bs (.box k)).v with
   | agg cs =>
    obtain ⟨i, k', cs0, rfl, hi, g1, rfl, g2⟩ := hbox k cs hv
    rw [hv] at hc
    have hc : (cs0.map (tc ks))[j]? = some (.own e xs) := hc
    have hc0 : cs0[j]? = some (.own e xs) := by
     rw [List.getElem?_map] at hc
     cases hcj : cs0[j]? with
     | none => rw [hcj] at hc; cases hc
     | some c0 => rw [hcj] at hc; simp only [Option.map_some, Option.some.injEq] at hc; rw [tc_own hc]
    have hβ : idxβ ks β (.inb i) = β k' := by
     have := idxβ_of (List.mem_of_getElem? hi) β
     rw [idx_get hnd hi] at this
     exact this
    have hh' : hdr K β a w (.box k') j = some u1 := by
     simp only [hdr, hβ] at hh
     exact hh
    obtain ⟨p1, p2⟩ := h.own (.box k') j e xs u1 b1 rfl (by rw [g1]; exact hc0) hh' hb1
    exact ⟨hω i k' (some j) _ hi p1, p2⟩
   | undef => rw [hv] at hc; simp [SV.cells] at hc
   | one c => cases k <;> simp only [entrySt] at hv <;> (try (split at hv)) <;> cases hv
   | tup c => cases k <;> simp only [entrySt] at hv <;> (try (split at hv)) <;> cases hv
 ·intro i j e xs u1 b1 hc hh hb1
  have hc' : (cargs.getD i .undef).cells[j]? = some (.own e xs) := hc
  have hne : cargs.getD i .undef ≠ .undef := by intro e; rw [e] at hc'; simp [SV.cells] at hc'
  have hh' : (flat (us.getD i undef))[j]? = some u1 := by rw [← hget]; exact hh
  obtain ⟨p1, p2⟩ := (hargc i _ rfl hne).2.1 j e xs u1 b1 hc' hh' hb1
  exact ⟨p2, fun hE => hE p1⟩
 ·intro b g hb
  have hb' : idxω ks ω b ≠ none := by rw [hb]; simp
  have : ∃ g', ω b = some g' := by
   unfold idxω at hb
   cases hω : ω b with
   | none => rw [hω] at hb; cases hb
   | some g' => exact ⟨g', rfl⟩
  obtain ⟨g', hg'⟩ := this
  obtain ⟨q1, q2, _⟩ := h.ωok b g' hg'
  exact ⟨q1, q2, fun _ => hb'⟩
end
end Go.Vs
namespace Go.Vs
section
variable {K : Ctx} {β : Key → Option Nat} {ω : Nat → Option Holder} {Z : Nat → Prop} {s : St} {a : Act} {w : World} {cfg : Cfg}
theorem bc_own {ks : List Key} {c : C} {e : Nat} {xs : List (List D)} (h : bc ks c = .own e xs) : c = .own e xs := by
 cases c with
 | ptr k off => cases k <;> cases h
 | _ => first | exact h | cases h
theorem bc_plain1 {ks : List Key} {c : C} (h : plain c = true) : bc ks c = c := by cases c <;> first | rfl | cases h
theorem bc_plain {ks : List Key} {cs : List C} (h : cs.all plain = true) : cs.map (bc ks) = cs := by
 induction cs with
 | nil => rfl
 | cons c cs ih =>
  rw [List.all_cons, Bool.and_eq_true] at h
  rw [List.map_cons, bc_plain1 h.1, ih h.2]
theorem plain_bok {n : Nat} {cs : List C} (h : cs.all plain = true) : cs.all (bok n) = true := by
 rw [List.all_eq_true] at h ⊢
 intro c hc
 have := h c hc
 cases c <;> first | rfl | cases this
theorem samePtr_iff {v : SV} {l : List C} (h : samePtr v l = true) : ∃ k off, v = .agg [.ptr k off] ∧ l = [.ptr k off] := by
 unfold samePtr at h
 split at h
 ·simp only [Bool.and_eq_true, decide_eq_true_eq, Nat.beq_eq] at h
  obtain ⟨rfl, rfl⟩ := h
  exact ⟨_, _, rfl, rfl⟩
 ·cases h
theorem putBoxes_spec {kk : List Key} : ∀ (ks : List Key) (bs : List (List C)) (s s' : St) {y : Unit}, ks.Nodup → (putBoxes kk ks bs).exec s = some (y, s') → bs.length = ks.length ∧ (∀ (i : Nat) k cs, ks[i]? = some k → bs[i]? = some cs → (s' (.box k)).v = .agg (cs.map (bc kk)) ∧ ((s' (.box k)).hv = (s (.box k)).hv + 1 ∨ (s' (.box k) = s (.box k) ∧ ∃ q off, cs.map (bc kk) = [.ptr q off])) ∧ (s' (.box k)).cv = (s (.box k)).cv ∧ cs.all (bok kk.length) = true) ∧
  (∀ r, (∀ k ∈ ks, r ≠ .box k) → s' r = s r) := by
 intro ks
 induction ks with
 | nil =>
  intro bs s s' y _ he
  cases bs with
  | nil => obtain ⟨_, hs⟩ := exec_ret he; exact ⟨rfl, by simp, fun r _ => by rw [hs]⟩
  | cons b bs => simp [putBoxes, Prog.exec] at he
 | cons k ks ih =>
  intro bs s s' y hnd he
  cases bs with
  | nil => simp [putBoxes, Prog.exec] at he
  | cons b bs =>
   simp only [putBoxes, Prog.exec] at he
   obtain ⟨_, s1, h1, he2⟩ := exec_bind' he
   obtain ⟨hp, hs1⟩ := exec_need h1
   rw [hs1] at he2
   obtain ⟨hk, hnd'⟩ := List.nodup_cons.1 hnd
   cases hsp : samePtr (s (.box k)).v (b.map (bc kk)) with
   | true =>
    rw [hsp] at he2
    obtain ⟨kq, off, hv1, hv2⟩ := samePtr_iff hsp
    obtain ⟨q1, q2, q3⟩ := ih bs s s' hnd' he2
    refine ⟨by simp [q1], fun i k' cs hi hb => ?_, fun r hr => q3 r (fun k2 hk2 => hr k2 (List.mem_cons_of_mem _ hk2))⟩
    cases i with
    | zero =>
     simp only [List.getElem?_cons_zero, Option.some.injEq] at hi hb
     subst hi; subst hb
     rw [q3 (.box k) (fun k2 hk2 e => hk (by cases e; exact hk2))]
     exact ⟨by rw [hv1, hv2], .inr ⟨rfl, kq, off, hv2⟩, rfl, hp⟩
    | succ i =>
     simp only [List.getElem?_cons_succ] at hi hb
     exact q2 i k' cs hi hb
   | false =>
   rw [hsp] at he2
   obtain ⟨_, s2, h2, he3⟩ := exec_bind' he2
   simp only [putR, Prog.exec, Option.some.injEq, Prod.mk.injEq] at h2
   obtain ⟨_, hs2⟩ := h2
   obtain ⟨q1, q2, q3⟩ := ih bs s2 s' hnd' he3
   have hs2k : ∀ r, r ≠ .box k → s2 r = s r := fun r hr => by rw [← hs2, set_other _ _ hr]
   refine ⟨by simp [q1], fun i k' cs hi hb => ?_, fun r hr => ?_⟩
   ·cases i with
    | zero =>
     simp only [List.getElem?_cons_zero, Option.some.injEq] at hi hb
     subst hi; subst hb
     rw [q3 (.box k) (fun k2 hk2 e => hk (by cases e; exact hk2)), ← hs2, set_same]
     exact ⟨rfl, .inl rfl, rfl, hp⟩
    | succ i =>
     simp only [List.getElem?_cons_succ] at hi hb
     have := q2 i k' cs hi hb
     have hne : Res.box k' ≠ .box k := fun e => hk (by cases e; exact List.mem_of_getElem? hi)
     rw [hs2k _ hne] at this
     exact this
   ·rw [q3 r (fun k2 hk2 => hr k2 (List.mem_cons_of_mem _ hk2)), hs2k r (hr k (List.mem_cons_self ..))]
theorem escape_spec (t : Nat) : ∀ (bs : List (List C)) (i0 : Nat) (s s' : St) {y : Unit}, (escape t i0 bs).exec s = some (y, s') →
  (∀ (i : Nat) cs, bs[i]? = some cs → (s (.box (.esc t (i0 + i)))).v = .undef ∧ (s' (.box (.esc t (i0 + i)))).v = .agg cs ∧ (s' (.box (.esc t (i0 + i)))).hv = (s (.box (.esc t (i0 + i)))).hv + 1 ∧ (s' (.box (.esc t (i0 + i)))).cv = (s (.box (.esc t (i0 + i)))).cv ∧ cs.all plain = true) ∧
  (∀ r, (∀ i, i < bs.length → r ≠ .box (.esc t (i0 + i))) → s' r = s r) := by
 intro bs
 induction bs with
 | nil => intro i0 s s' y he; obtain ⟨_, hs⟩ := exec_ret he; exact ⟨by simp, fun r _ => by rw [hs]⟩
 | cons b bs ih =>
  intro i0 s s' y he
  simp only [escape, Prog.exec] at he
  split at he
  ·rename_i hu
   obtain ⟨_, s1, h1, he2⟩ := exec_bind' he
   obtain ⟨hp, hs1⟩ := exec_need h1
   rw [hs1] at he2
   obtain ⟨_, s2, h2, he3⟩ := exec_bind' he2
   simp only [putR, Prog.exec, Option.some.injEq, Prod.mk.injEq] at h2
   obtain ⟨_, hs2⟩ := h2
   obtain ⟨q2, q3⟩ := ih (i0 + 1) s2 s' he3
   have hs2k : ∀ r, r ≠ .box (.esc t i0) → s2 r = s r := fun r hr => by rw [← hs2, set_other _ _ hr]
   refine ⟨fun i cs hb => ?_, fun r hr => ?_⟩
   ·cases i with
    | zero =>
     simp only [List.getElem?_cons_zero, Option.some.injEq] at hb
     subst hb
     simp only [Nat.add_zero]
     rw [q3 (.box (.esc t i0)) (fun i _ e => by simp at e; omega), ← hs2, set_same]
     exact ⟨hu, rfl, rfl, rfl, hp⟩
    | succ i =>
     simp only [List.getElem?_cons_succ] at hb
     have := q2 i cs hb
     rw [show i0 + 1 + i = i0 + (i + 1) by omega, hs2k _ (by simp)] at this
     exact this
   ·rw [q3 r (fun i hi => by have := hr (i + 1) (by simpa using hi); rw [show i0 + 1 + i = i0 + (i + 1) by omega]; exact this), hs2k r (by have := hr 0 (by simp); simpa using this)]
  ·simp [Prog.exec] at he
theorem frzArgs_same {args : List SV} : ∀ {l : List (Nat × Nat)}, frzOk args l = true → frzArgs l args = args
 | [], _ => rfl
 | (i, j) :: r, h => by
  simp only [frzOk, List.all_cons, Bool.and_eq_true] at h
  obtain ⟨h1, h2⟩ := h
  simp only [frzArgs]
  have hset : args.set i (frz1 (args.getD i .undef) j) = args := by
   have : frz1 (args.getD i .undef) j = args.getD i .undef := by
    unfold frz1
    split at h1
    ·rename_i x hx; rw [hx]
    ·cases h1
   rw [this]
   apply List.ext_getElem?
   intro m
   rw [List.getElem?_set]
   split
   ·rename_i hm
    subst hm
    split
    ·rename_i hl
     rw [List.getD_eq_getElem?_getD, List.getElem?_eq_getElem hl]
     rfl
    ·rename_i hl
     rw [List.getElem?_eq_none (by omega)]
   ·rfl
  rw [hset]
  exact frzArgs_same h2
def tr (ks : List Key) (t : Nat) : Option Holder → Option Holder
 | some (.tmp _, j) => some (.tmp t, j)
 | some (.box (.inb i), j) => some (.box (if i < ks.length then ks.getD i default else .esc t (i - ks.length)), j)
 | _ => none
open Classical in
theorem exit_rel (h : Rel K β ω Z s a w) {ks : List Key} (hnd : ks.Nodup) {us : List Value} {cargs : List SV} (hcan : All2 (CanV ks β ω Z w) us cargs) {r : CallRes} {v : Value} {β' : Key → Option Nat} {ω' : Nat → Option Holder} {Z' : Nat → Prop} {w' : World}
  (hR : Rel (ctxOf K.P 1 w us.toArray (idxβ ks β) (idxω ks ω) Z) β' ω' Z' (exitSt cargs r) { tmps := #[v], defers := [] } w')
  (hagg : ∀ (i : Nat) (k : Key), ks[i]? = some k → ∃ cs, (s (.box k)).v = .agg cs) (hfrz : frzOk cargs r.frz = true) (hlen : ks.length ≤ r.boxes.length)
  {t : Nat} {s1 s2 : St} {y y' : Unit} (hp : (putBoxes ks ks (r.boxes.take ks.length)).exec s = some (y, s1)) (hesc : (escape t 0 (r.boxes.drop ks.length)).exec s1 = some (y', s2)) {v' : SV} {s3 : St} (hback : (backSV ks t r.v).exec s2 = some (v', s3)) :
  ∃ β'' ω'', Rel K β'' ω'' Z' s3 a w' ∧ Pend K β'' ω'' Z' s3 a w' (.tmp t) v v' := by
 obtain ⟨hpl, hp1, hp2⟩ := putBoxes_spec ks _ s s1 hnd hp
 obtain ⟨he1, he2⟩ := escape_spec t _ 0 s1 s2 hesc
 simp only [Nat.zero_add] at he1 he2
 have hKs : ∀ (i : Nat) k, ks[i]? = some k → ∃ cs, r.boxes[i]? = some cs ∧ (s1 (.box k)).v = .agg (cs.map (bc ks)) ∧ ((s1 (.box k)).hv = (s (.box k)).hv + 1 ∨ (s1 (.box k) = s (.box k) ∧ ∃ q off, cs.map (bc ks) = [.ptr q off])) ∧ (s1 (.box k)).cv = (s (.box k)).cv ∧ cs.all (bok ks.length) = true := by
  intro i k hi
  have hil : i < ks.length := (List.getElem?_eq_some_iff.1 hi).1
  have hb : (r.boxes.take ks.length)[i]? = r.boxes[i]? := by rw [List.getElem?_take, if_pos hil]
  have hbs : r.boxes[i]? = some r.boxes[i] := List.getElem?_eq_getElem (by omega)
  exact ⟨_, hbs, hp1 i k _ hi (by rw [hb]; exact hbs)⟩
 have hnotEsc : ∀ k ∈ ks, ∀ i, i < (r.boxes.drop ks.length).length → Res.box k ≠ .box (.esc t i) := by
  intro k hk i hi e
  cases e
  obtain ⟨j, hj⟩ := List.getElem?_of_mem hk
  obtain ⟨cs, _, g, _⟩ := hKs j _ hj
  have := (he1 i _ (List.getElem?_eq_getElem hi)).1
  rw [g] at this
  cases this
 have hS2k : ∀ (i : Nat) k, ks[i]? = some k → ∃ cs, r.boxes[i]? = some cs ∧ (s2 (.box k)).v = .agg (cs.map (bc ks)) ∧ ((s2 (.box k)).hv = (s (.box k)).hv + 1 ∨ (s2 (.box k) = s (.box k) ∧ ∃ q off, cs.map (bc ks) = [.ptr q off])) ∧ (s2 (.box k)).cv = (s (.box k)).cv ∧ cs.all (bok ks.length) = true := by
  intro i k hi
  obtain ⟨cs, g⟩ := hKs i k hi
  rw [← he2 (.box k) (hnotEsc k (List.mem_of_getElem? hi))] at g
  exact ⟨cs, g⟩
 have hS2e : ∀ i, i < (r.boxes.drop ks.length).length → ∃ cs, r.boxes[ks.length + i]? = some cs ∧ (s (.box (.esc t i))).v = .undef ∧ (s2 (.box (.esc t i))).v = .agg cs ∧ (s2 (.box (.esc t i))).hv = (s (.box (.esc t i))).hv + 1 ∧ (s2 (.box (.esc t i))).cv = (s (.box (.esc t i))).cv ∧ cs.all plain = true := by
  intro i hi
  obtain ⟨g1, g2, g3, g4, g5⟩ := he1 i _ (List.getElem?_eq_getElem hi)
  have hs1 : s1 (.box (.esc t i)) = s (.box (.esc t i)) := hp2 _ fun k hk => (hnotEsc k hk i hi).symm
  rw [hs1] at g1 g3 g4
  refine ⟨_, ?_, g1, g2, g3, g4, g5⟩
  rw [← List.getElem?_drop, List.getElem?_eq_getElem hi]
 have hS2o : ∀ q, (∀ k ∈ ks, q ≠ .box k) → (∀ i, i < (r.boxes.drop ks.length).length → q ≠ .box (.esc t i)) → s2 q = s q := fun q h1 h2 => by rw [he2 q h2, hp2 q h1]
 have hback3 : s3 = s2 := by
  have hb1 : ∀ (c c' : C) (x x' : St), (back ks t c).exec x = some (c', x') → x' = x := by
   intro c c' x x' he
   unfold back at he
   split at he
   ·exact (exec_ret he).2
   ·exact (exec_ret he).2
   ·exact (exec_ret he).2
   ·obtain ⟨_, x1, h1, he2⟩ := exec_bind' he
    rw [(exec_ret he2).2, (exec_need h1).2]
   ·simp [Prog.exec] at he
  have hb2 : ∀ (cs cs' : List C) (x x' : St), (backs ks t cs).exec x = some (cs', x') → x' = x := by
   intro cs
   induction cs with
   | nil => intro cs' x x' he; exact (exec_ret he).2
   | cons c cs ih =>
    intro cs' x x' he
    simp only [backs] at he
    obtain ⟨c1, x1, h1, he1⟩ := exec_bind' he
    obtain ⟨cs1, x2, h2, he2⟩ := exec_bind' he1
    rw [(exec_ret he2).2, ih _ _ _ h2, hb1 _ _ _ _ h1]
  have hb3 : ∀ (vs vs' : List (Bool × List C)) (x x' : St), (backTup ks t vs).exec x = some (vs', x') → x' = x := by
   intro vs
   induction vs with
   | nil => intro cs' x x' he; exact (exec_ret he).2
   | cons c cs ih =>
    intro cs' x x' he
    obtain ⟨b, c⟩ := c
    simp only [backTup] at he
    obtain ⟨c1, x1, h1, he1⟩ := exec_bind' he
    obtain ⟨cs1, x2, h2, he2⟩ := exec_bind' he1
    rw [(exec_ret he2).2, ih _ _ _ h2, hb2 _ _ _ _ h1]
  cases hrv : r.v with
  | one c => rw [hrv] at hback; simp only [backSV] at hback; obtain ⟨c1, x1, h1, he⟩ := exec_bind' hback; rw [(exec_ret he).2, hb1 _ _ _ _ h1]
  | agg c => rw [hrv] at hback; simp only [backSV] at hback; obtain ⟨c1, x1, h1, he⟩ := exec_bind' hback; rw [(exec_ret he).2, hb2 _ _ _ _ h1]
  | tup c => rw [hrv] at hback; simp only [backSV] at hback; obtain ⟨c1, x1, h1, he⟩ := exec_bind' hback; rw [(exec_ret he).2, hb3 _ _ _ _ h1]
  | undef => rw [hrv] at hback; simp [backSV, Prog.exec] at hback
 rw [hback3] at hback ⊢
 let dom : Nat → Prop := fun b => w.heap.size ≤ b ∨ idxω ks ω b ≠ none
 have hdomHeap : ∀ b, ¬ dom b → w'.heap[b]? = w.heap[b]? := fun b hb => hR.frame b (by simp only [dom, not_or] at hb; show b < w.heap.size; omega) (by simp only [dom, not_or] at hb; exact hb.2)
 have hωdom : ∀ b g, ω' b = some g → dom b := by
  intro b g hb
  by_cases hlt : b < w.heap.size
  ·exact .inr ((hR.ωok b g hb).2.2 hlt)
  ·exact .inl (by omega)
 have hfz : ∀ b, Z' b → Z b ∨ dom b := by
  intro b hb
  rcases hR.znew b hb with g | g | g | ⟨i, j, e, ys, u0, g1, g2, g3, g3l⟩
  ·exact .inl g
  ·exact .inr (.inl g)
  ·exact .inr (.inr g)
  ·left
   have g1' : (cargs.getD i .undef).cells[j]? = some (.d (.sl e ys)) := by
    have : (exitSt cargs r (.arg i)).v = (frzArgs r.frz cargs).getD i .undef := rfl
    rw [this, frzArgs_same hfrz] at g1
    exact g1
   rw [List.getD_eq_getElem?_getD] at g1'
   cases hci : cargs[i]? with
   | none => rw [hci] at g1'; simp [SV.cells] at g1'
   | some cv =>
    rw [hci] at g1'
    obtain ⟨u, q1, q2⟩ := hcan.get hci
    obtain ⟨x, q3, q4⟩ := (q2.1 K s a).cell g1'
    have hu : (ctxOf K.P 1 w us.toArray (idxβ ks β) (idxω ks ω) Z).argv.getD i undef = u := by
     show us.toArray.getD i undef = u
     simp [Array.getD_eq_getD_getElem?, q1]
    rw [hu, q3] at g2
    cases g2
    exact DRel.live q4 g3 g3l
 have hnd0 : ∀ b g, ω b = some g → (∀ k j, g = (.box k, j) → k ∉ ks) → ¬ dom b := by
  intro b g hb hg
  have hlt := (h.ωok b g hb).2.1
  simp only [dom, not_or]
  refine ⟨by omega, ?_⟩
  simp only [ne_eq, Decidable.not_not]
  unfold idxω
  rw [hb]
  obtain ⟨q, j⟩ := g
  cases q with
  | box k => simp only; rw [if_neg (hg k j rfl)]
  | tmp t => rfl
  | arg i => rfl
 have hndZ : ∀ b, Z b → ¬ dom b := by
  intro b hb
  have hlt := h.zin b hb
  simp only [dom, not_or]
  refine ⟨by omega, ?_⟩
  have : ω b = none := by
   cases hω : ω b with
   | none => rfl
   | some g => exact absurd hb (h.ωok b g hω).1
  simp [idxω, this]
 have hndA : ∀ b, b < K.base → ¬ K.E0 b → ¬ dom b := by
  intro b hb hE
  simp only [dom, not_or]
  refine ⟨by have := h.base; omega, ?_⟩
  have : ω b = none := by
   cases hω : ω b with
   | none => rfl
   | some g => exact absurd ((h.ωok b g hω).2.2 hb) hE
  simp [idxω, this]
 let β'' : Key → Option Nat := fun k => match k with
  | .esc t' i => if t' = t ∧ i < (r.boxes.drop ks.length).length then β' (.inb (ks.length + i)) else β k
  | k => β k
 have hβesc : ∀ i, i < (r.boxes.drop ks.length).length → β'' (.esc t i) = β' (.inb (ks.length + i)) := fun i hi => by simp only [β'', hi, and_self, if_true]
 have hβo : ∀ k, (∀ i, i < (r.boxes.drop ks.length).length → k ≠ .esc t i) → β'' k = β k := by
  intro k hk
  cases k with
  | inb i => rfl
  | loc t => rfl
  | esc t' i =>
   simp only [β'']
   rw [if_neg]
   rintro ⟨rfl, hi⟩
   exact hk i hi rfl
 have hβmono : ∀ k b, β k = some b → β'' k = some b := by
  intro k b hb
  rw [hβo k]
  ·exact hb
  ·rintro i hi rfl
   obtain ⟨cs, _, g, _⟩ := hS2e i hi
   have := h.boxes (.esc t i)
   rw [g] at this
   simp only [BoxRel] at this
   rw [this] at hb
   cases hb
 have hβks : ∀ (i : Nat) k, ks[i]? = some k → ∃ b, β k = some b ∧ β' (.inb i) = some b ∧ β'' k = some b := by
  intro i k hi
  obtain ⟨cs, hcs⟩ := hagg i k hi
  obtain ⟨b, ws, el, lo, hi', g1, _⟩ := BoxRel.cell h hcs
  refine ⟨b, g1, hR.βold (.inb i) b ?_, hβmono k b g1⟩
  show idxβ ks β (.inb i) = some b
  have := idxβ_of (List.mem_of_getElem? hi) β
  rw [idx_get hnd hi] at this
  rw [this]
  exact g1
 let ω'' : Nat → Option Holder := fun b => if dom b then tr ks t (ω' b) else ω b
 have hω1 : ∀ b, dom b → ω'' b = tr ks t (ω' b) := fun b hb => by simp only [ω'']; rw [if_pos hb]
 have hω2 : ∀ b, ¬ dom b → ω'' b = ω b := fun b hb => by simp only [ω'']; rw [if_neg hb]
 have hevo : ∀ q, Evo (s q) (s2 q) := by
  intro q
  by_cases h1 : ∃ k ∈ ks, q = .box k
  ·obtain ⟨k, hk, rfl⟩ := h1
   obtain ⟨i, hi⟩ := List.getElem?_of_mem hk
   obtain ⟨cs, _, _, g1, g2, _⟩ := hS2k i k hi
   rcases g1 with g1 | g1
   ·exact Evo.bump g1 g2
   ·rw [g1.1]; exact Evo.refl _
  ·by_cases h2 : ∃ i, i < (r.boxes.drop ks.length).length ∧ q = .box (.esc t i)
   ·obtain ⟨i, hi, rfl⟩ := h2
    obtain ⟨cs, _, _, _, g1, g2, _⟩ := hS2e i hi
    exact Evo.bump g1 g2
   ·rw [hS2o q (fun k hk e => h1 ⟨k, hk, e⟩) (fun i hi e => h2 ⟨i, hi, e⟩)]
    exact Evo.refl _
 have hsame : ∀ q, (s2 q).hv = (s q).hv → ((∀ k ∈ ks, q ≠ .box k) ∨ ∃ (i : Nat) (k : Key) (p : Key) (off : Nat) (cs : List C), ks[i]? = some k ∧ q = .box k ∧ s2 q = s q ∧ (s q).v = .agg [.ptr p off] ∧ r.boxes[i]? = some cs ∧ cs.map (bc ks) = [.ptr p off] ∧ cs.all (bok ks.length) = true) ∧ (∀ i, i < (r.boxes.drop ks.length).length → q ≠ .box (.esc t i)) := by
  intro q hq
  constructor
  ·by_cases h1 : ∃ k ∈ ks, q = .box k
   ·obtain ⟨k, hk, rfl⟩ := h1
    obtain ⟨i, hi⟩ := List.getElem?_of_mem hk
    obtain ⟨cs, g0, gv, g1, _, gb⟩ := hS2k i k hi
    rcases g1 with g1 | ⟨g1, p, off, g2⟩
    ·omega
    ·exact .inr ⟨i, k, p, off, cs, hi, rfl, g1, by rw [← g1, gv, g2], g0, g2, gb⟩
   ·exact .inl fun k hk e => h1 ⟨k, hk, e⟩
  ·rintro i hi rfl
   obtain ⟨cs, _, _, _, g1, _⟩ := hS2e i hi
   omega
 have hhdr : ∀ q j, (∀ k ∈ ks, q ≠ .box k) → (∀ i, i < (r.boxes.drop ks.length).length → q ≠ .box (.esc t i)) → hdr K β'' a w' q j = hdr K β a w q j := by
  intro q j h1 h2
  cases q with
  | tmp t' => rfl
  | arg i => rfl
  | box k =>
   simp only [hdr]
   rw [hβo k (fun i hi e => h2 i hi (by rw [e]))]
   cases hb : β k with
   | none => rfl
   | some b =>
    simp only [Option.bind_some]
    refine cell_of_heap (hdomHeap b ?_) _ _
    have hbx := h.boxes k
    cases hv : (s (.box k)).v with
    | agg cs =>
     obtain ⟨b2, ws, el, lo, hi, g1, g2, _⟩ := BoxRel.cell h hv
     rw [hb] at g1
     cases g1
     exact hnd0 b _ g2 fun k' j' e hk' => h1 k' hk' (by cases e; rfl)
    | undef => rw [hv] at hbx; simp only [BoxRel] at hbx; rw [hbx] at hb; cases hb
    | one c => rw [hv] at hbx; exact hbx.elim
    | tup x => rw [hv] at hbx; exact hbx.elim
 have hZdom : ∀ b, ¬ dom b → Z' b → Z b := fun b hb hz => (hfz b hz).resolve_right hb
 have hbcC : ∀ (c : C) (u : Value), bok ks.length c = true → CRel (ctxOf K.P 1 w us.toArray (idxβ ks β) (idxω ks ω) Z) β' Z' (exitSt cargs r) { tmps := #[v], defers := [] } w' c u → CRel K β'' Z' s2 a w' (bc ks c) u := by
  intro c u hb hc
  cases c with
  | d x => exact hc
  | own e xs => exact hc
  | ptr k off =>
   cases k with
   | inb m =>
    have hm : m < ks.length := by simpa [bok] using hb
    obtain ⟨b, g1, g2⟩ := hc
    obtain ⟨b2, p1, p2, p3⟩ := hβks m _ (List.getElem?_eq_getElem hm)
    rw [p2] at g1
    cases g1
    refine ⟨b, ?_, g2⟩
    rw [List.getD_eq_getElem?_getD, List.getElem?_eq_getElem hm]
    exact p3
   | _ => cases hb
  | dead => trivial
  | _ => cases hb
 have hboxR : ∀ (i : Nat) (cs : List C) (kk : Key), r.boxes[i]? = some cs → cs.all (bok ks.length) = true → β'' kk = β' (.inb i) → (if i < ks.length then ks.getD i default else .esc t (i - ks.length)) = kk →
   (BoxRel K β'' ω'' Z' s2 a w' kk (.agg (cs.map (bc ks)))) ∧ (∀ (j e : Nat) (xs : List (List D)) (u1 : Value) (b1 : Nat), (cs.map (bc ks))[j]? = some (.own e xs) → hdr K β'' a w' (.box kk) j = some u1 → blkOf u1 = some b1 → ω'' b1 = some (.box kk, some j) ∧ WrV w' e u1) := by
  intro i cs kk hi hpl hβk hkk
  have hex : (exitSt cargs r (.box (.inb i))).v = .agg cs := by simp only [exitSt, hi]
  obtain ⟨b, ws, el, lo, hi', g1, g2, g3, g4, g5⟩ := BoxRel.cell hR hex
  have hdb := hωdom b _ g2
  refine ⟨⟨b, ws, el, lo, hi', by rw [hβk]; exact g1, by rw [hω1 b hdb, g2]; simp only [tr, hkk], g3, g4, g5.map_right fun u c hc hr => hbcC c u (bok_mem hpl hc) hr⟩, ?_⟩
  intro j e xs u1 b1 hc hh hb1
  have hc : cs[j]? = some (.own e xs) := by
   rw [List.getElem?_map] at hc
   cases hcj : cs[j]? with
   | none => rw [hcj] at hc; cases hc
   | some c0 => rw [hcj] at hc; simp only [Option.map_some, Option.some.injEq] at hc; rw [bc_own hc]
  have hh' : hdr (ctxOf K.P 1 w us.toArray (idxβ ks β) (idxω ks ω) Z) β' { tmps := #[v], defers := [] } w' (.box (.inb i)) j = some u1 := by
   simp only [hdr] at hh ⊢
   rw [← hβk]
   exact hh
  obtain ⟨q1, q2⟩ := hR.own (.box (.inb i)) j e xs u1 b1 rfl (by rw [hex]; exact hc) hh' hb1
  have hd2 := hωdom _ _ q1
  exact ⟨by rw [hω1 _ hd2, q1]; simp only [tr, hkk], q2⟩
 have hhdr2 : ∀ q j, (s2 q).hv = (s q).hv → (s2 q).at j ≠ .dead → hdr K β'' a w' q j = hdr K β a w q j := by
  intro q j hq hd
  obtain ⟨g1, g2⟩ := hsame q hq
  rcases g1 with g1 | ⟨i, k, p, off, cs, hi, rfl, e1, e2, e3, e4, e5⟩
  ·exact hhdr q j g1 g2
  ·have hil : i < ks.length := (List.getElem?_eq_some_iff.1 hi).1
   obtain ⟨b, p1, p2, p3⟩ := hβks i k hi
   have hB := (hboxR i cs k e3 e5 (by rw [p2, p3]) (by rw [if_pos hil, List.getD_eq_getElem?_getD, hi]; rfl)).1
   rw [e4] at hB
   obtain ⟨b1, ws1, el1, lo1, hi1, a1, _, a3, _, a5⟩ := hB
   obtain ⟨b2, ws2, el2, lo2, hi2, c1, _, c3, _, c5⟩ := BoxRel.cell h e2
   rw [hdr_box a1 a3, hdr_box c1 c3]
   have hj : j = 0 := by
    cases j with
    | zero => rfl
    | succ j => exact absurd (by rw [e1]; simp only [RV.at, e2, SV.cells]; rfl) hd
   subst hj
   obtain ⟨u1, x1, y1⟩ := a5.get (j := 0) rfl
   obtain ⟨u2, x2, y2⟩ := c5.get (j := 0) rfl
   rw [x1, x2]
   obtain ⟨b3, z1, z2⟩ := y1
   obtain ⟨b4, z3, z4⟩ := y2
   rw [hβmono _ _ z3] at z1
   cases z1
   rw [z2, z4]
 have hlift : ∀ (c : C) (u : Value), (∀ (e : Nat) (xs : List (List D)) (b1 : Nat), c = .own e xs → blkOf u = some b1 → ¬ dom b1) → CRel K β Z s a w c u → CRel K β'' Z' s2 a w' c u := fun c u hcu h1 =>
  CRel.step hβmono (fun b hb => ⟨hdomHeap b (hndZ b hb), hR.zold b hb⟩) hevo hhdr2 (fun e xs b1 h2 h3 => hdomHeap _ (hcu e xs b1 h2 h3)) h1
 have hliftI : ∀ (q : Res) (j : Nat) (c : C) (u : Value), (∀ k ∈ ks, q ≠ .box k) → (s q).v.cells[j]? = some c → hdr K β a w q j = some u → CRel K β Z s a w c u → CRel K β'' Z' s2 a w' c u := by
  intro q j c u hq hc hu
  refine hlift c u fun e xs b1 h1 h2 => ?_
  subst h1
  by_cases hra : q.isArg = true
  ·cases q with
   | arg i => obtain ⟨g1, g2⟩ := h.argown i j e xs u b1 hc hu h2; exact hndA _ g1 g2
   | tmp t => simp [Res.isArg] at hra
   | box k => simp [Res.isArg] at hra
  ·exact hnd0 _ _ (h.own q j e xs u b1 (by simpa using hra) hc hu h2).1 fun k' j' e' hk' => hq k' hk' (by cases e'; rfl)
 have hs2v : ∀ q, (∀ k ∈ ks, q ≠ .box k) → (∀ i, i < (r.boxes.drop ks.length).length → q ≠ .box (.esc t i)) → (s2 q).v = (s q).v := fun q h1 h2 => by rw [hS2o q h1 h2]
 have hRel : Rel K β'' ω'' Z' s2 a w' := by
  refine ⟨h.size, h.defers, hR.os.trans h.os, hR.tape.trans h.tape, hR.output.trans h.output, Nat.le_trans h.base hR.base, ?_, hR.zin, fun b hb => hR.zold b (h.zold b hb), ?_, ?_, ?_, ?_, ?_, ?_, ?_, fun k b hb => hβmono k b (h.βold k b hb)⟩
  ·intro b hb hE
   rw [hdomHeap b (hndA b hb hE)]
   exact h.frame b hb hE
  ·intro b hb
   rcases hfz b hb with g | g
   ·rcases h.znew b g with q | q | q | ⟨i, j', e', ys', u', q1, q2, q3⟩
    ·exact .inl q
    ·exact .inr (.inl q)
    ·exact .inr (.inr (.inl q))
    ·exact .inr (.inr (.inr ⟨i, j', e', ys', u', by rw [hs2v _ (by simp) (by simp)]; exact q1, q2, q3⟩))
   ·rcases g with g | g
    ·exact .inr (.inl (Nat.le_trans h.base g))
    ·by_cases hb2 : b < K.base
     ·right; right; left
      cases hω : ω b with
      | none => simp [idxω, hω] at g
      | some g' => exact (h.ωok b g' hω).2.2 hb2
     ·exact .inr (.inl (by omega))
  ·intro t'
   rw [hs2v _ (by simp) (by simp)]
   exact SVRel.monoI (fun j c u hc hu => hliftI (.tmp t') j c u (by simp) hc hu) (h.tmps t')
  ·intro i
   rw [hs2v _ (by simp) (by simp)]
   exact SVRel.monoI (fun j c u hc hu => hliftI (.arg i) j c u (by simp) hc hu) (h.args i)
  ·intro k
   by_cases h1 : k ∈ ks
   ·obtain ⟨i, hi⟩ := List.getElem?_of_mem h1
    obtain ⟨cs, g1, g2, _, _, g3⟩ := hS2k i k hi
    obtain ⟨b, p1, p2, p3⟩ := hβks i k hi
    rw [g2]
    refine (hboxR i cs k g1 g3 (by rw [p2, p3]) ?_).1
    have hil : i < ks.length := (List.getElem?_eq_some_iff.1 hi).1
    rw [if_pos hil, List.getD_eq_getElem?_getD, hi]
    rfl
   ·by_cases h2 : ∃ i, i < (r.boxes.drop ks.length).length ∧ k = .esc t i
    ·obtain ⟨i, hi, rfl⟩ := h2
     obtain ⟨cs, g1, _, g2, _, _, g3⟩ := hS2e i hi
     rw [g2]
     have hh := (hboxR (ks.length + i) cs (.esc t i) g1 (plain_bok g3) (hβesc i hi) (by rw [if_neg (by omega), Nat.add_sub_cancel_left])).1
     rw [bc_plain g3] at hh
     exact hh
    ·have hn1 : ∀ k' ∈ ks, Res.box k ≠ .box k' := fun k' hk' e => h1 (by cases e; exact hk')
     have hn2 : ∀ i, i < (r.boxes.drop ks.length).length → Res.box k ≠ .box (.esc t i) := fun i hi e => h2 ⟨i, hi, by cases e; rfl⟩
     rw [hs2v _ hn1 hn2]
     have hbx := h.boxes k
     cases hv : (s (.box k)).v with
     | agg cs =>
      obtain ⟨b, ws, el, lo, hi, g1, g2, g3, g4, g5⟩ := BoxRel.cell h hv
      have hdb : ¬ dom b := hnd0 b _ g2 fun k' j' e hk' => h1 (by cases e; exact hk')
      refine ⟨b, ws, el, lo, hi, hβmono k b g1, by rw [hω2 b hdb]; exact g2, by rw [hdomHeap b hdb]; exact g3, g4, All2.of_get g5.length fun j u c hu hc => ?_⟩
      obtain ⟨u', q1, q2⟩ := g5.get hc
      rw [hu] at q1
      cases q1
      exact hliftI (.box k) j c u hn1 (by rw [hv]; exact hc) (by rw [hdr_box g1 g3]; exact hu) q2
     | undef =>
      rw [hv] at hbx
      show β'' k = none
      rw [hβo k (fun i hi e => h2 ⟨i, hi, e⟩)]
      exact hbx
     | one c => rw [hv] at hbx; exact hbx.elim
     | tup x => rw [hv] at hbx; exact hbx.elim
  ·intro q j e xs u1 b1 hq hc hh hb1
   by_cases h1 : ∃ k ∈ ks, q = .box k
   ·obtain ⟨k, hk, rfl⟩ := h1
    obtain ⟨i, hi⟩ := List.getElem?_of_mem hk
    obtain ⟨cs, g1, g2, _, _, g3⟩ := hS2k i k hi
    obtain ⟨b, p1, p2, p3⟩ := hβks i k hi
    rw [g2] at hc
    refine (hboxR i cs k g1 g3 (by rw [p2, p3]) ?_).2 j e xs u1 b1 hc hh hb1
    have hil : i < ks.length := (List.getElem?_eq_some_iff.1 hi).1
    rw [if_pos hil, List.getD_eq_getElem?_getD, hi]
    rfl
   ·by_cases h2 : ∃ i, i < (r.boxes.drop ks.length).length ∧ q = .box (.esc t i)
    ·obtain ⟨i, hi, rfl⟩ := h2
     obtain ⟨cs, g1, _, g2, _, _, g3⟩ := hS2e i hi
     rw [g2] at hc
     exact (hboxR (ks.length + i) cs (.esc t i) g1 (plain_bok g3) (hβesc i hi) (by rw [if_neg (by omega), Nat.add_sub_cancel_left])).2 j e xs u1 b1 (by rw [bc_plain g3]; exact hc) hh hb1
    ·have hn1 : ∀ k' ∈ ks, q ≠ .box k' := fun k' hk' e => h1 ⟨k', hk', e⟩
     have hn2 : ∀ i, i < (r.boxes.drop ks.length).length → q ≠ .box (.esc t i) := fun i hi e => h2 ⟨i, hi, e⟩
     rw [hs2v _ hn1 hn2] at hc
     rw [hhdr q j hn1 hn2] at hh
     obtain ⟨g1, g2⟩ := h.own q j e xs u1 b1 hq hc hh hb1
     have hdb : ¬ dom b1 := hnd0 _ _ g1 fun k' j' e' hk' => hn1 k' hk' (by cases e'; rfl)
     exact ⟨by rw [hω2 _ hdb]; exact g1, g2.mono hb1 (hdomHeap _ hdb)⟩
  ·intro i j e xs u1 b1 hc hh hb1
   rw [hs2v _ (by simp) (by simp)] at hc
   exact h.argown i j e xs u1 b1 hc hh hb1
  ·intro b g hb
   by_cases hd : dom b
   ·rw [hω1 b hd] at hb
    cases hω : ω' b with
    | none => rw [hω] at hb; simp [tr] at hb
    | some g' =>
     obtain ⟨q1, q2, q3⟩ := hR.ωok b g' hω
     refine ⟨q1, q2, fun hbase => ?_⟩
     have hlt : b < w.heap.size := Nat.lt_of_lt_of_le hbase h.base
     have hne : idxω ks ω b ≠ none := q3 hlt
     cases hω0 : ω b with
     | none => simp [idxω, hω0] at hne
     | some g0 => exact (h.ωok b g0 hω0).2.2 hbase
   ·rw [hω2 b hd] at hb
    obtain ⟨q1, q2, q3⟩ := h.ωok b g hb
    exact ⟨fun hz => q1 (hZdom b hd hz), Nat.lt_of_lt_of_le q2 hR.base, q3⟩
 refine ⟨β'', ω'', hRel, ?_⟩
 have hv0 : SVRel (CRel (ctxOf K.P 1 w us.toArray (idxβ ks β) (idxω ks ω) Z) β' Z' (exitSt cargs r) { tmps := #[v], defers := [] } w') v r.v := hR.tmps 0
 have hown0 : ∀ (j e : Nat) (xs : List (List D)) (u1 : Value) (b1 : Nat), r.v.cells[j]? = some (.own e xs) → (flat v)[j]? = some u1 → blkOf u1 = some b1 → ω'' b1 = some (.tmp t, some j) ∧ WrV w' e u1 ∧ dom b1 := by
  intro j e xs u1 b1 hc hh hb1
  obtain ⟨q1, q2⟩ := hR.own (.tmp 0) j e xs u1 b1 rfl hc hh hb1
  have hd := hωdom _ _ q1
  exact ⟨by rw [hω1 _ hd, q1]; rfl, q2, hd⟩
 have hfree : ∀ (j : Nat) (b : Nat), ω'' b = some (.tmp t, some j) → dom b → Free K β'' s2 a w' b := by
  intro j b hω hd q j' e' xs' u' b' hq hc hh hb1 hb
  have g := (hRel.own q j' e' xs' u' b' hq hc hh hb1).1
  rw [hb, hω] at g
  simp only [Option.some.injEq, Prod.mk.injEq] at g
  obtain ⟨rfl, rfl⟩ := g
  rw [hs2v _ (by simp) (by simp)] at hc
  rw [hhdr _ _ (by simp) (by simp)] at hh
  have g2 := (h.own (.tmp t) j e' xs' u' b' rfl hc hh hb1).1
  exact hnd0 _ _ g2 (by intro k j e; cases e) (by rw [hb]; exact hd)
 have hbackC : ∀ (c c' : C) (x : Value) (q q' : St), (back ks t c).exec q = some (c', q') → CRel (ctxOf K.P 1 w us.toArray (idxβ ks β) (idxω ks ω) Z) β' Z' (exitSt cargs r) { tmps := #[v], defers := [] } w' c x →
   CRel K β'' Z' s2 a w' c' x ∧ (∀ e xs, c' = .own e xs → c = .own e xs) := by
  intro c c' x q q' he hc
  unfold back at he
  split at he
  ·obtain ⟨rfl, _⟩ := exec_ret he; exact ⟨hc, by simp⟩
  ·obtain ⟨rfl, _⟩ := exec_ret he; exact ⟨hc, by simp⟩
  ·rename_i i off
   obtain ⟨rfl, _⟩ := exec_ret he
   obtain ⟨b, g1, g2⟩ := hc
   refine ⟨⟨b, ?_, g2⟩, by simp⟩
   simp only [backKey]
   split
   ·rename_i hi
    have hki := List.getElem?_eq_getElem hi
    obtain ⟨b2, p1, p2, p3⟩ := hβks i _ hki
    rw [List.getD_eq_getElem?_getD, hki]
    rw [p2] at g1
    cases g1
    exact p3
   ·rename_i hi
    have hbx := hR.boxes (.inb i)
    cases hri : r.boxes[i]? with
    | none =>
     have : (exitSt cargs r (.box (.inb i))).v = .undef := by simp only [exitSt, hri]
     rw [this] at hbx
     simp only [BoxRel] at hbx
     rw [hbx] at g1
     cases g1
    | some cs =>
     have hil := (List.getElem?_eq_some_iff.1 hri).1
     rw [hβesc (i - ks.length) (by simp; omega), show ks.length + (i - ks.length) = i by omega]
     exact g1
  ·obtain ⟨_, x1, h1, he2⟩ := exec_bind' he
   obtain ⟨hcap, _⟩ := exec_need h1
   obtain ⟨rfl, _⟩ := exec_ret he2
   rw [hcap] at hc
   obtain ⟨vs, g1, g2⟩ := hc
   exact ⟨⟨vs, g1, by cases hvs : vs.toList with | nil => trivial | cons _ _ => rw [hvs] at g2; exact g2.elim⟩, by simp⟩
  ·simp [Prog.exec] at he
 have hbackCs : ∀ (cs : List C) (xs : List Value) (cs' : List C) (q q' : St), (backs ks t cs).exec q = some (cs', q') → All2 (fun u c => CRel (ctxOf K.P 1 w us.toArray (idxβ ks β) (idxω ks ω) Z) β' Z' (exitSt cargs r) { tmps := #[v], defers := [] } w' c u) xs cs →
   All2 (fun u c => CRel K β'' Z' s2 a w' c u) xs cs' ∧ (∀ (j e : Nat) ys, cs'[j]? = some (.own e ys) → cs[j]? = some (.own e ys)) := by
  intro cs
  induction cs with
  | nil =>
   intro xs cs' q q' he hall
   obtain ⟨rfl, _⟩ := exec_ret he
   cases xs with
   | nil => exact ⟨trivial, by simp⟩
   | cons _ _ => exact hall.elim
  | cons c cs ih =>
   intro xs cs' q q' he hall
   cases xs with
   | nil => exact hall.elim
   | cons x xs =>
    simp only [backs] at he
    obtain ⟨c1, x1, h1, he1⟩ := exec_bind' he
    obtain ⟨cs1, x2, h2, he2⟩ := exec_bind' he1
    obtain ⟨rfl, _⟩ := exec_ret he2
    obtain ⟨p1, p2⟩ := hbackC _ _ _ _ _ h1 hall.1
    obtain ⟨q1, q2⟩ := ih xs cs1 _ _ h2 hall.2
    refine ⟨⟨p1, q1⟩, fun j e ys hj => ?_⟩
    cases j with
    | zero => simp only [List.getElem?_cons_zero, Option.some.injEq] at hj ⊢; exact p2 e ys hj
    | succ j => simpa using q2 j e ys (by simpa using hj)
 have fin : ∀ v', SVRel (CRel K β'' Z' s2 a w') v v' → (∀ (j e : Nat) ys, v'.cells[j]? = some (.own e ys) → r.v.cells[j]? = some (.own e ys)) → Pend K β'' ω'' Z' s2 a w' (.tmp t) v v' := by
  intro v' h1 h2
  refine ⟨h1, fun j c x hc hx => ?_⟩
  obtain ⟨x', g1, g2⟩ := h1.cell hc
  rw [hx] at g1
  cases g1
  refine ⟨g2, fun e xs b q1 q2 => ?_⟩
  subst q1
  obtain ⟨p1, p2, p3⟩ := hown0 j e xs x b (h2 j e xs hc) hx q2
  exact ⟨p1, p2, hfree j b p1 p3⟩
 cases hrv : r.v with
 | one c =>
  rw [hrv] at hback hv0
  simp only [backSV] at hback
  obtain ⟨c1, x1, h1, he⟩ := exec_bind' hback
  obtain ⟨rfl, _⟩ := exec_ret he
  obtain ⟨p1, p2⟩ := hbackC _ _ _ _ _ h1 hv0.2
  refine fin _ ⟨hv0.1, p1⟩ fun j e ys hj => ?_
  rw [hrv]
  cases j with
  | zero => simp only [SV.cells, List.getElem?_cons_zero, Option.some.injEq] at hj ⊢; exact p2 e ys hj
  | succ j => simp [SV.cells] at hj
 | agg cs =>
  rw [hrv] at hback hv0
  simp only [backSV] at hback
  obtain ⟨c1, x1, h1, he⟩ := exec_bind' hback
  obtain ⟨rfl, _⟩ := exec_ret he
  obtain ⟨ws, hws, hall⟩ := hv0
  obtain ⟨p1, p2⟩ := hbackCs _ _ _ _ _ h1 hall
  exact fin _ ⟨ws, hws, p1⟩ fun j e ys hj => by rw [hrv]; exact p2 j e ys hj
 | tup vs =>
  rw [hrv] at hback hv0
  simp only [backSV] at hback
  obtain ⟨c1, x1, h1, he⟩ := exec_bind' hback
  obtain ⟨rfl, _⟩ := exec_ret he
  obtain ⟨ws, hws, hall⟩ := hv0
  have key : ∀ (vs : List (Bool × List C)) (xs : List Value) (vs' : List (Bool × List C)) (q q' : St), (backTup ks t vs).exec q = some (vs', q') → All2 (TRel (CRel (ctxOf K.P 1 w us.toArray (idxβ ks β) (idxω ks ω) Z) β' Z' (exitSt cargs r) { tmps := #[v], defers := [] } w')) xs vs →
    All2 (TRel (CRel K β'' Z' s2 a w')) xs vs' ∧ (vs'.map (·.2.length) = vs.map (·.2.length)) ∧ (∀ (j e : Nat) ys, (vs'.flatMap (·.2))[j]? = some (.own e ys) → (vs.flatMap (·.2))[j]? = some (.own e ys)) := by
   intro vs
   induction vs with
   | nil =>
    intro xs vs' q q' he hall
    obtain ⟨rfl, _⟩ := exec_ret he
    cases xs with
    | nil => exact ⟨trivial, rfl, by simp⟩
    | cons _ _ => exact hall.elim
   | cons x vs ih =>
    obtain ⟨b, cs⟩ := x
    intro xs vs' q q' he hall
    cases xs with
    | nil => exact hall.elim
    | cons x xs =>
     simp only [backTup] at he
     obtain ⟨c1, x1, h1, he1⟩ := exec_bind' he
     obtain ⟨cs1, x2, h2, he2⟩ := exec_bind' he1
     obtain ⟨rfl, _⟩ := exec_ret he2
     obtain ⟨q1, q2, q3⟩ := ih xs cs1 _ _ h2 hall.2
     have hfl := TRel.flat hall.1
     obtain ⟨p1, p2⟩ := hbackCs cs x.cells.toList c1 _ _ h1 hfl
     have hl : c1.length = cs.length := by rw [← p1.length, hfl.length]
     refine ⟨⟨?_, q1⟩, by simp [q2, hl], fun j e ys hj => ?_⟩
     ·have h3 := hall.1
      unfold TRel at h3 ⊢
      cases b with
      | true =>
       simp only [if_true] at h3 ⊢
       obtain ⟨ws, rfl, _⟩ := h3
       exact ⟨ws, rfl, p1⟩
      | false =>
       simp only [Bool.false_eq_true, if_false] at h3 ⊢
       obtain ⟨c, g1, g2, _⟩ := h3
       rw [cells_of_isOne g2] at p1
       match c1, p1 with
       | [d], p1 => exact ⟨d, rfl, g2, p1.1⟩
     ·simp only [List.flatMap_cons] at hj ⊢
      by_cases hjl : j < c1.length
      ·rw [List.getElem?_append_left hjl] at hj
       rw [List.getElem?_append_left (by omega)]
       exact p2 j e ys hj
      ·rw [List.getElem?_append_right (by omega)] at hj
       rw [List.getElem?_append_right (by omega), ← hl]
       exact q3 _ e ys hj
  obtain ⟨p1, _, p2⟩ := key _ _ _ _ _ h1 hall
  exact fin _ ⟨ws, hws, p1⟩ fun j e ys hj => by rw [hrv]; exact p2 j e ys hj
 | undef => rw [hrv] at hback; simp [backSV, Prog.exec] at hback
end
end Go.Vs
namespace Go.Vs
section
variable {K : Ctx} {β : Key → Option Nat} {ω : Nat → Option Holder} {Z : Nat → Prop} {s : St} {a : Act} {w : World} {cfg : Cfg}
theorem isMap_it {e : Nat} (h : isIt e = true) : isMap e = true := by
 have := Nat.le_of_ble_eq_true h
 exact Nat.ble_eq_true_of_le (by omega)
theorem range_yield (hT : Tabs K.P cfg) (h : Rel K β ω Z s a w) {t : TypeId} {x : Operand} {dst : Nat} {o : Oper} (ho : o.op = .range t x) {v : SV} {s' : St} (he : (aval cfg o.op dst).exec s = some (v, s')) :
  Yield K s' a dst ((execOp a.eval o).run K.P w) v := by
 rw [ho] at he
 simp only [aval] at he
 obtain ⟨c, s1, h1, he2⟩ := exec_bind' he
 obtain ⟨hs1, o1, r1, hno1⟩ := ev1_spec h h1
 rw [hs1] at he2
 unfold rangeP at he2
 split at he2
 ·rename_i kt ki ei hm
  obtain ⟨et, hu, hki, hei, hb1, hb2⟩ := mapT_parts hT hm
  obtain ⟨d, s2, h2, he3⟩ := exec_bind' he2
  obtain ⟨ω1, Z1, R1, k1, hd⟩ := toD_spec h r1 h2
  split at he3
  ·rename_i e xs
   obtain ⟨_, s3, h3, he4⟩ := exec_bind' he3
   obtain ⟨⟨hee, hlen⟩, hs3⟩ := exec_need h3
   obtain ⟨hv, hs4⟩ := exec_ret he4
   subst hv; subst hs4; subst hs3
   have hm1 : isMap e = true := by rw [hee]; exact mode_map
   have hi : isIt e = false := by rw [hee]; exact mode_it hb1 hb2
   have hun : isUn e = false := by rw [hee]; exact mode_un hb1 hb2
   obtain ⟨b, e1, hz, g0⟩ := (DRel.mp_iff hm1).1 hd
   rw [mpV_map hi] at e1
   obtain ⟨es, clk, g1, g2, g3⟩ := (MapAt.mp hi hun).1 g0
   have hclk : clk = xs.length := by rw [g2.clk, ents_len g3]
   obtain ⟨r2, k2, f2, g4⟩ := R1.newObj (.mapIter (some b) clk #[] clk) (.tmp dst, some 0)
   have hheap : ∀ b', Z1 b' → (w.alloc (.mapIter (some b) clk #[] clk)).heap[b']? = w.heap[b']? ∧ Z1 b' := fun b' hb' => by
    have := R1.zin b' hb'
    refine ⟨?_, hb'⟩
    show (w.heap.push _)[b']? = _
    rw [Array.getElem?_push, if_neg (by omega)]
   have hcu : ∀ (s : St), CRel K β Z1 s a (w.alloc (.mapIter (some b) clk #[] clk)) (.own itE [[.sl e xs], []]) (.pointer (some ⟨w.heap.size, 0, none⟩)) := fun s =>
    (CRel.own_mp (e := itE) rfl).2 ⟨w.heap.size, (mpV_it rfl _).symm, (MapAt.it (e := itE) rfl).2 ⟨b, clk, #[], clk, g4, ⟨(DRel.mp_iff hm1).2 ⟨b, (mpV_map hi _).symm, hz, MapAt.mono hheap e xs b (hheap b hz).1 g0⟩, trivial⟩, e, xs, rfl, hm1, hi, hun, hclk, hclk, rfl⟩⟩
   refine ⟨.pointer (some ⟨w.heap.size, 0, none⟩), w.alloc (.mapIter (some b) clk #[] clk), β, _, Z1, ?_, r2, ⟨rfl, hcu _⟩, ?_⟩
   ·simp only [execOp, ho, Instr.range, e1, Sem.run_bind, run_underlying hu, Result.andThen_ok, gom g1, Sem.run_pure]
    rfl
   ·intro j c x hc hx
    have hj : j = 0 := by
     simp only [SV.cells] at hc
     cases j with
     | zero => rfl
     | succ j => simp at hc
    subst hj
    simp only [SV.cells, List.getElem?_cons_zero, Option.some.injEq] at hc
    simp only [flat, List.getElem?_cons_zero, Option.some.injEq] at hx
    subst hc; subst hx
    refine ⟨hcu _, fun e' xs b q1 q2 => ?_⟩
    cases q1
    simp only [blkOf, Option.some.injEq] at q2
    subst q2
    exact ⟨by simp, trivial, f2⟩
  ·simp [Prog.exec] at he3
 ·simp [Prog.exec] at he2
theorem own_it (h : Rel K β ω Z s a w) {r : Res} {j hv cv e k : Nat} {xs0 : List (List D)} {um : Value} (hcm : CRel K β Z s a w (.bor r j hv cv e k xs0) um) (hhv : (s r).hv = hv) (hra : r.isArg = false) (hi : isIt e = true)
  {e' em : Nat} {xs : List (List D)} {seen : List D} (hat : (s r).at j = .own e' [[.sl em xs], seen]) :
  e' = e ∧ ∃ b m es clk sn, um = .pointer (some ⟨b, 0, none⟩) ∧ hdr K β a w r j = some (mpV e b) ∧ w.heap[b]? = some (.mapIter (some m) xs.length sn xs.length) ∧ w.heap[m]? = some (.map es clk) ∧
   clk = xs.length ∧ EntsOk em clk es.toList ∧ EntsRel w Z xs es.toList ∧ seen = sn.toList.map (fun n => .int .i64 (n : Int)) ∧ isMap em = true ∧ isIt em = false ∧ isUn em = false ∧ DRel w Z (.sl em xs) (.map (some m)) ∧ ¬ Z b := by
 have hmp := isMap_it hi
 obtain ⟨b, e1, _, _, g4⟩ := (CRel.bor_mp hmp).1 hcm
 obtain ⟨f1, ys, f2, _⟩ := g4 hhv (alive_of_own hat)
 rw [hat] at f2
 rcases f2 with f2 | f2 <;> cases f2
 obtain ⟨b2, q1, g0⟩ := h.ownMap hmp hat
 rw [f1, Option.some.injEq] at q1
 rw [mpV_inj q1.symm] at g0
 obtain ⟨m, since, sn, stepped, p1, p2, e0, ys, p3, p4, p5, pun, p6, p7, p8⟩ := (MapAt.it hi).1 g0
 cases p3
 obtain ⟨hd, _⟩ := p2
 obtain ⟨m', q2, _, g1⟩ := (DRel.mp_iff p4).1 hd
 rw [mpV_map p5] at q2
 cases q2
 obtain ⟨es, clk, g1, g2, g3⟩ := (MapAt.mp p5 pun).1 g1
 have hclk : clk = xs.length := by rw [g2.clk, ents_len g3]
 subst p6; subst p7
 refine ⟨rfl, b, m, es, clk, sn, by rw [e1, mpV_it hi], f1, p1, g1, hclk, g2, g3, by simpa using p8, p4, p5, pun, hd, ?_⟩
 exact (h.ωok _ _ (h.own r j _ _ _ b hra (at_cells hat (by simp)) f1 (mpV_blk ..)).1).1
theorem entT_rel {em : Nat} {row : List D} {en : MapEntry} (hk : EntOk em en) (hr : CellsRel w Z row (entCells en)) : All2 (TRel (CRel K β Z s a w)) [en.key, en.val] (entT em row) := by
 unfold EntOk at hk
 unfold entT
 generalize mKa em = ka at hk ⊢
 generalize mKl em = kl at hk ⊢
 generalize mVa em = va at hk ⊢
 generalize mVl em = vl at hk ⊢
 obtain ⟨k1, k2⟩ := hk
 obtain ⟨p1, p2⟩ := ent_parts k1 hr
 exact ⟨val_rel k1 p1, val_rel k2 p2, trivial⟩
theorem entT_noOwn {em : Nat} {row : List D} {c : C} (hc : c ∈ (entT em row).flatMap (·.2)) : NoOwn c := by
 simp only [entT, List.flatMap_cons, List.flatMap_nil, List.append_nil, List.mem_append, List.mem_map] at hc
 rcases hc with ⟨d, _, rfl⟩ | ⟨d, _, rfl⟩ <;> simp [NoOwn]
theorem one_entry {em clk : Nat} {row : List D} {es : Array MapEntry} (ho : EntsOk em clk es.toList) (hr : EntsRel w Z [row] es.toList) : ∃ en, es = #[en] ∧ en.born = 0 ∧ EntOk em en ∧ CellsRel w Z row (entCells en) := by
 obtain ⟨l⟩ := es
 match l, hr with
 | [en], hr => exact ⟨en, rfl, ho.born 0 en rfl, ho.ok en (List.mem_singleton.2 rfl), hr.1⟩
theorem next_over (h : Rel K β ω Z s a w) {dst : Nat} {r : Result Next} (hr : r = .ok (.value (.tuple #[.bool false])) w) : Yield K s a dst r (.tup [(false, [.d (.bool false)])]) :=
 Yield.same h hr ⟨#[.bool false], rfl, ⟨_, rfl, rfl, rfl⟩, trivial⟩ (by simp [SV.cells, NoOwn])
theorem next_yield (h : Rel K β ω Z s a w) {x : Operand} {dst : Nat} {o : Oper} (ho : o.op = .next x false) {v : SV} {s' : St} (he : (aval cfg o.op dst).exec s = some (v, s')) :
  Yield K s' a dst ((execOp a.eval o).run K.P w) v := by
 rw [ho] at he
 simp only [aval] at he
 obtain ⟨c, s1, h1, he2⟩ := exec_bind' he
 obtain ⟨hs1, o1, r1, hno1⟩ := ev1_spec h h1
 rw [hs1] at he2
 unfold nextP at he2
 split at he2
 ·rename_i r j hv cv e k xs0
  simp only [Prog.exec] at he2
  obtain ⟨_, s3, h3, he3⟩ := exec_bind' he2
  obtain ⟨⟨hhv, hra, hi⟩, hs3⟩ := exec_need h3
  rw [hs3] at he3
  have hex : ∀ {u : Value} {w' : World}, (Instr.next (a.eval x) false o.type).run K.P w = .ok u w' → (execOp a.eval o).run K.P w = .ok (.value u) w' := by
   intro u w' hh
   simp only [execOp, ho, Sem.run_bind, hh, Result.andThen_ok, Sem.run_pure]
  split at he3
  ·rename_i e' em hat
   obtain ⟨_, s4, h4, he4⟩ := exec_bind' he3
   obtain ⟨_, hs4⟩ := exec_need h4
   rw [hs4] at he4
   obtain ⟨rfl, rfl⟩ := exec_ret he4
   obtain ⟨_, b, m, es, clk, sn, e1, f1, p1, p2, p3, p4, p5, p6, _⟩ := own_it h r1 hhv hra hi hat
   refine next_over h (hex ?_)
   rw [e1]
   have hes : es = #[] := by
    obtain ⟨l⟩ := es
    match l, p5 with
    | [], _ => rfl
   subst hes
   rcases run_next_at (P := K.P) w o.type b m _ _ sn #[] clk p1 p2 (by simp) (Nat.le_refl _) with ⟨_, q⟩ | ⟨en, q, _⟩
   ·exact q
   ·simp [leftOf] at q
  ·rename_i e' em row hat
   obtain ⟨_, s4, h4, he4⟩ := exec_bind' he3
   simp only [putR, Prog.exec, Option.some.injEq, Prod.mk.injEq] at h4
   obtain ⟨_, h4⟩ := h4
   obtain ⟨hv, hs'⟩ := exec_ret he4
   subst hv; subst hs'
   obtain ⟨hee, b, m, es, clk, sn, e1, f1, p1, p2, p3, p4, p5, p6, p7, p8, pun, p9, hnz⟩ := own_it h r1 hhv hra hi hat
   subst hee
   obtain ⟨en, rfl, hborn, hen, hrow⟩ := one_entry p4 p5
   have hsn : sn = #[] := by
    have : sn.toList = [] := by simpa using p6.symm
    exact Array.toList_eq_nil_iff.1 this
   subst hsn
   have hold : ∀ x ∈ (#[en] : Array MapEntry).toList, x.born < [row].length := by
    intro x hx
    obtain rfl : x = en := by simpa using hx
    simp [hborn]
   rcases run_next_at (P := K.P) w o.type b m _ _ #[] #[en] clk p1 p2 hold (Nat.le_refl _) with ⟨q, _⟩ | ⟨en', q1, w1, q2, q3⟩
   ·simp [leftOf] at q
   ·obtain rfl : en' = en := by simpa [leftOf] using q1
    have hR1 : Rel K β ω Z s a w1 ∧ w1.heap = w.heap := by
     rcases q2 with rfl | rfl
     ·exact ⟨h, rfl⟩
     ·exact ⟨h.drew.1, rfl⟩
    obtain ⟨R1, hw1⟩ := hR1
    obtain ⟨hchg, hhere⟩ := setObj_chg (w := w1) (o' := .mapIter (some m) [row].length (#[].push en'.born) clk) (by rw [hw1]; exact p1)
    have hZ : ∀ b', Z b' → (ChangeMaps.setBlock w1 b (.mapIter (some m) [row].length (#[].push en'.born) clk)).heap[b']? = w.heap[b']? ∧ Z b' := fun b' hb' =>
     ⟨by rw [← hw1]; exact hchg.other b' (fun e => hnz (e ▸ hb')), hb'⟩
    have hf1 : hdr K β a w1 r j = some (mpV e' b) := by
     rw [← f1]
     cases r with
     | tmp t => rfl
     | arg i => rfl
     | box k => simp only [hdr, World.cell?, hw1]
    have hR2 := R1.setMap (isMap_it hi) hat hra hf1 hchg (ys' := [[.sl em [row]], [.int .i64 0]]) ((MapAt.it hi).2 ⟨m, _, _, _, hhere, ⟨DRel.mono hZ _ _ p9, trivial⟩, em, [row], rfl, p7, p8, pun, rfl, p3, by simp [hborn]⟩)
    refine ⟨_, _, β, ω, Z, hex (by rw [e1]; exact q3), by rw [← h4]; exact hR2, Pend.of_noOwn ⟨#[.bool true, en'.key, en'.val], rfl, ⟨_, rfl, rfl, rfl⟩, entT_rel hen (CellsRel.mono hZ _ _ hrow)⟩ ?_⟩
    intro c hc
    simp only [SV.cells, List.flatMap_cons, List.mem_append, List.mem_singleton] at hc
    rcases hc with rfl | hc
    ·simp [NoOwn]
    ·exact entT_noOwn hc
  ·rename_i e' em row hat
   obtain ⟨_, s4, h4, he4⟩ := exec_bind' he3
   obtain ⟨_, hs4⟩ := exec_need h4
   rw [hs4] at he4
   obtain ⟨rfl, rfl⟩ := exec_ret he4
   obtain ⟨_, b, m, es, clk, sn, e1, f1, p1, p2, p3, p4, p5, p6, _⟩ := own_it h r1 hhv hra hi hat
   refine next_over h (hex ?_)
   rw [e1]
   obtain ⟨en, rfl, hborn, hen, hrow⟩ := one_entry p4 p5
   have hsn : sn = #[0] := by
    obtain ⟨l⟩ := sn
    match l, p6 with
    | [n], p6 =>
     simp only [List.map_cons, List.map_nil, List.cons.injEq, D.int.injEq, true_and, and_true] at p6
     have : n = 0 := by omega
     rw [this]
   subst hsn
   have hold : ∀ x ∈ (#[en] : Array MapEntry).toList, x.born < [row].length := by
    intro x hx
    obtain rfl : x = en := by simpa using hx
    simp [hborn]
   rcases run_next_at (P := K.P) w o.type b m _ _ #[0] #[en] clk p1 p2 hold (Nat.le_refl _) with ⟨_, q⟩ | ⟨en', q, _⟩
   ·exact q
   ·simp [leftOf, hborn] at q
  ·simp [Prog.exec] at he3
 ·simp [Prog.exec] at he2
theorem entry_yield (h : Rel K β ω Z s a w) {x : Operand} {dst : Nat} {o : Oper} (ho : o.op = .entry x) {v : SV} {s' : St} (he : (aval cfg o.op dst).exec s = some (v, s')) :
  Yield K s' a dst ((execOp a.eval o).run K.P w) v := by
 rw [ho] at he
 simp only [aval] at he
 obtain ⟨c, s1, h1, he2⟩ := exec_bind' he
 obtain ⟨hs1, o1, r1, hno1⟩ := ev1_spec h h1
 rw [hs1] at he2
 unfold entryP at he2
 split at he2
 ·rename_i r j hv cv e k xs0
  simp only [Prog.exec] at he2
  obtain ⟨_, s3, h3, he3⟩ := exec_bind' he2
  obtain ⟨⟨hhv, hra, hi⟩, hs3⟩ := exec_need h3
  rw [hs3] at he3
  split at he3
  ·rename_i e' em row hat
   obtain ⟨rfl, rfl⟩ := exec_ret he3
   obtain ⟨_, b, m, es, clk, sn, e1, f1, p1, p2, p3, p4, p5, p6, _⟩ := own_it h r1 hhv hra hi hat
   obtain ⟨en, rfl, hborn, hen, hrow⟩ := one_entry p4 p5
   have hsn : sn = #[].push en.born := by
    obtain ⟨l⟩ := sn
    match l, p6 with
    | [n], p6 =>
     simp only [List.map_cons, List.map_nil, List.cons.injEq, D.int.injEq, true_and, and_true] at p6
     have : n = 0 := by omega
     rw [this, hborn]; rfl
   subst hsn
   refine Yield.same h (u := .tuple #[en.key, en.val]) ?_ ⟨_, rfl, entT_rel hen hrow⟩ fun c hc => entT_noOwn hc
   have hrun := run_entry_at (P := K.P) w b m _ #[] #[en] clk en (by rw [p3]; exact p1) p2 (by simp) (by simp)
   simp only [execOp, ho, e1, Sem.run_bind, hrun, Result.andThen_ok, Sem.run_pure]
  ·simp [Prog.exec] at he3
 ·simp [Prog.exec] at he2
end
end Go.Vs
namespace Go.Vs
noncomputable section
def Agree (R : List Res) (s s' : St) : Prop := ∀ r ∈ R, s r = s' r
theorem exec_local {α : Type} (p : Prog α) : ∀ (s s' : St) (a : α) (t : St), p.exec s = some (a, t) → Agree (p.foot s).1 s s' →
  ∃ t', p.exec s' = some (a, t') ∧ p.foot s' = p.foot s ∧ (∀ r ∈ (p.foot s).2, t' r = t r) ∧ (∀ r, r ∉ (p.foot s).2 → t' r = s' r ∧ t r = s r) := by
 induction p with
 | ret a =>
  intro s s' a' t h _
  simp only [Prog.exec, Option.some.injEq, Prod.mk.injEq] at h
  obtain ⟨rfl, rfl⟩ := h
  exact ⟨s', by simp [Prog.exec], by simp [Prog.foot], by simp [Prog.foot], by simp⟩
 | fail => intro s s' a t h; simp [Prog.exec] at h
 | get r k ih =>
  intro s s' a t h hag
  simp only [Prog.exec] at h
  have hr : s r = s' r := hag r (by simp [Prog.foot])
  obtain ⟨t', h1, h2, h3, h4⟩ := ih (s r) s s' a t h (fun q hq => hag q (by simp [Prog.foot, hq]))
  refine ⟨t', ?_, ?_, ?_, ?_⟩
  ·simp only [Prog.exec]; rw [← hr]; exact h1
  ·simp only [Prog.foot]; rw [← hr, h2]
  ·simpa [Prog.foot] using h3
  ·simpa [Prog.foot] using h4
 | put r x k ih =>
  intro s s' a t h hag
  simp only [Prog.exec] at h
  obtain ⟨t', h1, h2, h3, h4⟩ := ih (s.set r x) (s'.set r x) a t h (fun q hq => by
   by_cases hqr : q = r
   ·subst hqr; simp [set_same]
   ·rw [set_other _ _ hqr, set_other _ _ hqr]; exact hag q (by simp [Prog.foot, hq]))
  refine ⟨t', by simpa [Prog.exec] using h1, by simp [Prog.foot, h2], ?_, ?_⟩
  ·intro q hq
   simp only [Prog.foot, List.mem_cons] at hq
   by_cases hw : q ∈ (k.foot (s.set r x)).2
   ·exact h3 q hw
   ·obtain ⟨e1, e2⟩ := h4 q hw
    rcases hq with rfl | hq
    ·rw [e1, e2, set_same, set_same]
    ·exact absurd hq hw
  ·intro q hq
   simp only [Prog.foot, List.mem_cons, not_or] at hq
   obtain ⟨e1, e2⟩ := h4 q hq.2
   rw [e1, e2, set_other _ _ hq.1, set_other _ _ hq.1]
   exact ⟨rfl, rfl⟩
def indep (f g : List Res × List Res) : Bool :=
 f.2.all (fun r => !g.1.contains r && !g.2.contains r) && g.2.all (fun r => !f.1.contains r)
theorem indep_spec {f g : List Res × List Res} (h : indep f g = true) : (∀ r ∈ f.2, r ∉ g.1 ∧ r ∉ g.2) ∧ (∀ r ∈ g.2, r ∉ f.1) := by
 simp only [indep, Bool.and_eq_true, List.all_eq_true, Bool.not_eq_true', List.contains_eq_mem, decide_eq_false_iff_not] at h
 exact h
theorem exec_swap {α β : Type} {p : Prog α} {q : Prog β} {s s1 s2 : St} {a : α} {b : β} (hp : p.exec s = some (a, s1)) (hq : q.exec s1 = some (b, s2))
  (hi : indep (p.foot s) (q.foot s1) = true) :
  ∃ t1, q.exec s = some (b, t1) ∧ p.exec t1 = some (a, s2) ∧ q.foot s = q.foot s1 ∧ p.foot t1 = p.foot s := by
 obtain ⟨h1, h2⟩ := indep_spec hi
 have hloc := exec_local p s s a s1 hp (fun _ _ => rfl)
 have hps : ∀ r, r ∉ (p.foot s).2 → s1 r = s r := fun r hr => by
  obtain ⟨t', e, _, _, h4⟩ := hloc
  exact (h4 r hr).2
 have hqs : ∀ r, r ∉ (q.foot s1).2 → s2 r = s1 r := fun r hr => by
  obtain ⟨t', e, _, _, h4⟩ := exec_local q s1 s1 b s2 hq (fun _ _ => rfl)
  exact (h4 r hr).2
 obtain ⟨t1, e1, f1, g1, k1⟩ := exec_local q s1 s b s2 hq (fun r hr => hps r (fun hm => (h1 r hm).1 hr))
 obtain ⟨t2, e2, f2, g2, k2⟩ := exec_local p s t1 a s1 hp (fun r hr => ((k1 r (fun hm => h2 r hm hr)).1).symm)
 refine ⟨t1, e1, ?_, f1, f2⟩
 rw [e2]
 congr 2
 funext r
 by_cases hw : r ∈ (p.foot s).2
 ·rw [g2 r hw, hqs r (h1 r hw).2]
 ·rw [(k2 r hw).1]
  by_cases hv : r ∈ (q.foot s1).2
  ·exact g1 r hv
  ·rw [(k1 r hv).1, hqs r hv, hps r hw]
abbrev FP := Nat → List Res × List Res
def stepI (cfg : Cfg) (ops : Array Oper) (i : Nat) : Prog Unit :=
 match ops[i]? with
 | some o => astep cfg ops o
 | none => .ret ()
def RunF (cfg : Cfg) (ops : Array Oper) (fp : FP) : List Nat → St → St → Prop
 | [], s, s' => s = s'
 | i :: r, s, s' => ∃ s1, (stepI cfg ops i).exec s = some ((), s1) ∧ (stepI cfg ops i).foot s = fp i ∧ RunF cfg ops fp r s1 s'
variable {cfg : Cfg} {ops : Array Oper} {fp : FP}
theorem RunF.front {i : Nat} {B : List Nat} : ∀ {A : List Nat} {s s' : St}, RunF cfg ops fp (A ++ i :: B) s s' → (∀ a ∈ A, indep (fp a) (fp i) = true) →
  RunF cfg ops fp (i :: (A ++ B)) s s' := by
 intro A
 induction A with
 | nil => intro s s' h _; exact h
 | cons a A ih =>
  intro s s' h hA
  obtain ⟨s1, e1, f1, h1⟩ := h
  obtain ⟨s2, e2, f2, h2⟩ := ih h1 (fun x hx => hA x (List.mem_cons_of_mem _ hx))
  obtain ⟨t1, g1, g2, g3, g4⟩ := exec_swap e1 e2 (by rw [f1, f2]; exact hA a (List.mem_cons_self ..))
  exact ⟨t1, g1, g3.trans f2, s2, g2, g4.trans f1, h2⟩
def ancsFrom : List Oper → List (List Nat) → List (List Nat)
 | [], acc => acc
 | o :: r, acc => ancsFrom r (acc ++ [((o.after.toList.filter (Region.binds .any)).flatMap fun e => e.on :: acc.getD e.on []).eraseDups])
def ancs (ops : Array Oper) : List (List Nat) := ancsFrom ops.toList []
def Closed (ops : Array Oper) (L : Nat → Bool) : Prop := ∀ (i : Nat) (o : Oper), ops[i]? = some o → L i = true → ∀ e ∈ o.after, Region.binds .any e = true → L e.on = true
theorem ancsFrom_spec (ops : Array Oper) (L : Nat → Bool) (hL : Closed ops L) : ∀ (l : List Oper) (acc : List (List Nat)),
  (∀ (k : Nat), k < l.length → ops[acc.length + k]? = l[k]?) →
  (∀ (i : Nat) (o : Oper), i < acc.length → ops[i]? = some o → (∀ e ∈ o.after, Region.binds .any e = true → L e.on = true) → ∀ x ∈ acc.getD i [], L x = true) →
  ∀ (i : Nat) (o : Oper), i < acc.length + l.length → ops[i]? = some o → (∀ e ∈ o.after, Region.binds .any e = true → L e.on = true) → ∀ x ∈ (ancsFrom l acc).getD i [], L x = true := by
 intro l
 induction l with
 | nil => intro acc _ h i o hi ho he x hx; exact h i o (by simpa using hi) ho he x hx
 | cons o l ih =>
  intro acc hops hacc i o' hi ho' he x hx
  simp only [ancsFrom] at hx
  refine ih _ ?_ ?_ i o' (by simp at hi ⊢; omega) ho' he x hx
  ·intro k hk
   have := hops (k + 1) (by simp; omega)
   simp only [List.length_append, List.length_cons, List.length_nil]
   rw [show acc.length + (0 + 1) + k = acc.length + (k + 1) by omega, this]
   simp
  ·intro j oj hj hoj hej y hy
   by_cases hlt : j < acc.length
   ·rw [List.getD_eq_getElem?_getD, List.getElem?_append_left hlt, ← List.getD_eq_getElem?_getD] at hy
    exact hacc j oj hlt hoj hej y hy
   ·have hj' : j = acc.length := by simp at hj; omega
    subst hj'
    have h0 := hops 0 (by simp)
    simp only [Nat.add_zero, List.getElem?_cons_zero] at h0
    rw [hoj] at h0
    cases h0
    simp only [List.getD_eq_getElem?_getD, List.getElem?_append_right (Nat.le_refl _), Nat.sub_self, List.getElem?_cons_zero, Option.getD_some, List.mem_eraseDups, List.mem_flatMap, List.mem_filter] at hy
    obtain ⟨e, ⟨hem, hb⟩, hy⟩ := hy
    have hon : L e.on = true := hej e (by simpa using hem) hb
    rcases List.mem_cons.1 hy with rfl | hy
    ·exact hon
    ·by_cases hel : e.on < acc.length
     ·have hex : e.on < ops.size := by
       have := (Array.getElem?_eq_some_iff.1 hoj).1
       omega
      have hoe : ops[e.on]? = some ops[e.on] := Array.getElem?_eq_getElem hex
      exact hacc e.on _ hel hoe (hL e.on _ hoe hon) y hy
     ·rw [List.getElem?_eq_none (by omega)] at hy
      simp at hy
theorem ancs_spec {L : Nat → Bool} (hL : Closed ops L) {i : Nat} {o : Oper} (ho : ops[i]? = some o) (he : ∀ e ∈ o.after, Region.binds .any e = true → L e.on = true) :
  ∀ x ∈ (ancs ops).getD i [], L x = true :=
 ancsFrom_spec ops L hL ops.toList [] (by simp) (by simp) i o (by simpa using (Array.getElem?_eq_some_iff.1 ho).1) ho he
def fpsOf (cfg : Cfg) (ops : Array Oper) : List Oper → St → Option (List (List Res × List Res))
 | [], _ => some []
 | o :: r, s => match (astep cfg ops o).exec s with
  | some (_, s') => match fpsOf cfg ops r s' with
   | some l => some ((astep cfg ops o).foot s :: l)
   | none => none
  | none => none
def pairsOk (fps : List (List Res × List Res)) (an : List (List Nat)) : Bool :=
 (List.range fps.length).all fun j => (List.range j).all fun i => (an.getD j []).contains i || indep (fps.getD i ([], [])) (fps.getD j ([], []))
def orderOk (cfg : Cfg) (ops : Array Oper) (s : St) : Bool :=
 match fpsOf cfg ops ops.toList s with
 | some fps => pairsOk fps (ancs ops)
 | none => false
theorem pairsOk_spec {fps : List (List Res × List Res)} {an : List (List Nat)} (h : pairsOk fps an = true) {i j : Nat} (hij : i < j) (hj : j < fps.length) (hn : i ∉ an.getD j []) :
  indep (fps.getD i ([], [])) (fps.getD j ([], [])) = true := by
 simp only [pairsOk, List.all_eq_true, List.mem_range, Bool.or_eq_true, List.contains_eq_mem, decide_eq_true_eq] at h
 exact (h j hj i hij).resolve_left hn
theorem runF_of_runOps : ∀ (l : List Oper) (k : Nat) (s s' : St) (fps : List (List Res × List Res)) (pre : List (List Res × List Res)),
  (∀ i, i < l.length → ops[k + i]? = l[i]?) → pre.length = k → runOps cfg ops l s = some s' → fpsOf cfg ops l s = some fps →
  RunF cfg ops (fun i => (pre ++ fps).getD i ([], [])) (List.range' k l.length) s s' ∧ fps.length = l.length := by
 intro l
 induction l with
 | nil => intro k s s' fps pre _ _ h hf; simp [runOps] at h; simp [fpsOf] at hf; subst hf; simp [RunF, h]
 | cons o l ih =>
  intro k s s' fps pre hops hpre h hf
  simp only [runOps] at h
  simp only [fpsOf] at hf
  cases he : (astep cfg ops o).exec s with
  | none => simp [he] at h
  | some x =>
   obtain ⟨⟨⟩, s1⟩ := x
   simp only [he] at h hf
   cases hf1 : fpsOf cfg ops l s1 with
   | none => simp [hf1] at hf
   | some fl =>
    simp only [hf1, Option.some.injEq] at hf
    subst hf
    obtain ⟨hr, hlen⟩ := ih (k + 1) s1 s' fl (pre ++ [(astep cfg ops o).foot s]) (fun i hi => by
     have := hops (i + 1) (by simp; omega)
     rw [show k + 1 + i = k + (i + 1) by omega, this]; simp) (by simp [hpre]) h hf1
    have ho : ops[k]? = some o := by have := hops 0 (by simp); simpa using this
    refine ⟨?_, by simp [hlen]⟩
    simp only [List.length_cons, List.range'_succ, RunF]
    refine ⟨s1, by simp [stepI, ho, he], ?_, ?_⟩
    ·simp only [stepI, ho]
     subst hpre
     simp
    ·simpa using hr
theorem anyOrder {P : Program} {Q : Exit → Act → World → Prop} {s' : St} (Good : St → Act → World → Prop)
  (hstep : ∀ (i : Nat) (o : Oper) (s s1 : St) (a : Act) (w : World) (K : Act → World → Prop), ops[i]? = some o → (astep cfg ops o).exec s = some ((), s1) → Good s a w →
   (∀ a' w', Good s1 a' w' → K a' w') → wpOp P ops Q i K a w)
  (hend : ∀ a w, Good s' a w → Q .normal a w)
  (hpair : ∀ i j, i < j → j < ops.size → i ∉ (ancs ops).getD j [] → indep (fp i) (fp j) = true)
  (hedges : ∀ (i : Nat) (o : Oper), ops[i]? = some o → ∀ e ∈ o.after, Region.binds .any e = true → e.on < i) :
  ∀ (fuel : Nat) (R : List Nat) (listed : Array Bool) (s : St) (a : Act) (w : World), R.length = fuel → listed.size = ops.size → R.Pairwise (· < ·) →
   (∀ i, i ∈ R ↔ (i < ops.size ∧ listed.getD i true = false)) → Closed ops (fun i => listed.getD i false) →
   RunF cfg ops fp R s s' → Good s a w → wpAny P .any ops Q fuel listed a w := by
 intro fuel
 induction fuel with
 | zero =>
  intro R listed s a w hR _ _ hmem _ hrun hg
  have : R = [] := List.length_eq_zero_iff.1 hR
  subst this
  simp only [RunF] at hrun
  subst hrun
  refine ⟨?_, hend a w hg⟩
  apply List.eq_nil_iff_forall_not_mem.2
  intro i hi
  obtain ⟨h1, o, ho, _⟩ := mem_ready.1 hi
  have := (hmem i).2 ⟨(Array.getElem?_eq_some_iff.1 ho).1, h1⟩
  simp at this
 | succ fuel ih =>
  intro R listed s a w hR hsz hsort hmem hcl hrun hg
  constructor
  ·intro hnil
   exfalso
   cases R with
   | nil => simp at hR
   | cons k R =>
    obtain ⟨hk1, hk2⟩ := (hmem k).1 (List.mem_cons_self ..)
    have ho : ops[k]? = some ops[k] := Array.getElem?_eq_getElem hk1
    have : k ∈ Region.ready .any ops listed := mem_ready.2 ⟨hk2, _, ho, fun e he hb => by
     have hlt := hedges k _ ho e he hb
     have hlt2 : e.on < listed.size := by omega
     by_cases hl : listed.getD e.on true = false
     ·have hm := (hmem e.on).2 ⟨by omega, hl⟩
      rcases List.mem_cons.1 hm with h | h
      ·omega
      ·have := (List.pairwise_cons.1 hsort).1 _ h; omega
     ·simp only [Array.getD_eq_getD_getElem?, Array.getElem?_eq_getElem hlt2, Option.getD_some] at hl ⊢
      simpa using hl⟩
    rw [hnil] at this
    simp at this
  ·intro i hi
   obtain ⟨hi1, o, ho, hi2⟩ := mem_ready.1 hi
   have hisz : i < ops.size := (Array.getElem?_eq_some_iff.1 ho).1
   have hiR : i ∈ R := (hmem i).2 ⟨hisz, hi1⟩
   obtain ⟨A, B, rfl⟩ := List.append_of_mem hiR
   have hsort' := List.pairwise_append.1 hsort
   have hanc := ancs_spec hcl ho hi2
   have hfront := RunF.front hrun (fun x hx => by
    have hxi : x < i := hsort'.2.2 x hx i (List.mem_cons_self ..)
    refine hpair x i hxi hisz (fun hm => ?_)
    have h1 := hanc x hm
    have h2 := ((hmem x).1 (List.mem_append_left _ hx)).2
    have hx2 : x < listed.size := by omega
    simp only [Array.getD_eq_getD_getElem?, Array.getElem?_eq_getElem hx2, Option.getD_some] at h1 h2
    rw [h1] at h2
    cases h2)
   obtain ⟨s1, e1, _, hrest⟩ := hfront
   simp only [stepI, ho] at e1
   refine hstep i o s s1 a w _ ho e1 hg (fun a' w' hg' => ?_)
   have hsub : (A ++ B).Sublist (A ++ i :: B) := List.Sublist.append_left (List.sublist_cons_self _ _) _
   have hiNot : i ∉ A ++ B := by
    intro hm
    rcases List.mem_append.1 hm with h | h
    ·exact absurd (hsort'.2.2 i h i (List.mem_cons_self ..)) (by omega)
    ·exact absurd ((List.pairwise_cons.1 hsort'.2.1).1 i h) (by omega)
   refine ih (A ++ B) (listed.setIfInBounds i true) s1 a' w' (by simp at hR ⊢; omega) (by simpa using hsz) (hsort.sublist hsub) ?_ ?_ hrest hg'
   ·intro x
    constructor
    ·intro hx
     have hne : x ≠ i := fun h => hiNot (h ▸ hx)
     obtain ⟨h1, h2⟩ := (hmem x).1 (hsub.mem hx)
     exact ⟨h1, by rw [getD_set_ne _ (Ne.symm hne)]; exact h2⟩
    ·rintro ⟨h1, h2⟩
     have hne : x ≠ i := by
      rintro rfl
      rw [Array.getD_eq_getD_getElem?, Array.getElem?_setIfInBounds_self_of_lt (by omega)] at h2
      simp at h2
     rw [getD_set_ne _ (Ne.symm hne)] at h2
     have := (hmem x).2 ⟨h1, h2⟩
     simp only [List.mem_append, List.mem_cons] at this ⊢
     rcases this with h | h | h
     ·exact .inl h
     ·exact absurd h hne
     ·exact .inr h
   ·intro x ox hox hx e he hb
    by_cases hxi : x = i
    ·subst hxi
     rw [ho] at hox
     cases hox
     exact getD_set_true (hi2 e he hb)
    ·have hx' : (listed.setIfInBounds i true).getD x false = true := hx
     rw [getD_set_ne _ (Ne.symm hxi)] at hx'
     exact getD_set_true (hcl x ox hox hx' e he hb)
end
end Go.Vs
namespace Go.Vs
def argOkC : C → Bool
 | .d _ | .own _ _ | .ptr _ _ | .clo _ _ => true
 | _ => false
def argOk (v : SV) : Bool := v.cells.all argOkC
theorem canon_ok {ks : List Key} {c c' : C} {s s' : St} (he : (canon ks c).exec s = some (c', s')) : argOkC c' = true := by
 unfold canon at he
 split at he
 ·obtain ⟨rfl, _⟩ := exec_ret he; rfl
 ·simp only [Prog.exec] at he
  obtain ⟨_, s1, h1, he⟩ := exec_bind' he
  split at he
  ·obtain ⟨_, s2, h2, he⟩ := exec_bind' he
   obtain ⟨rfl, _⟩ := exec_ret he; rfl
  ·obtain ⟨rfl, _⟩ := exec_ret he; rfl
  ·simp [Prog.exec] at he
 ·obtain ⟨rfl, _⟩ := exec_ret he; rfl
 ·obtain ⟨rfl, _⟩ := exec_ret he; rfl
 ·simp [Prog.exec] at he
theorem canons_ok {ks : List Key} : ∀ {cs cs' : List C} {s s' : St}, (canons ks cs).exec s = some (cs', s') → cs'.all argOkC = true
 | [], _, _, _, he => by obtain ⟨rfl, _⟩ := exec_ret he; rfl
 | c :: cs, cs', s, s', he => by
  simp only [canons] at he
  obtain ⟨c1, s1, h1, he⟩ := exec_bind' he
  obtain ⟨cs1, s2, h2, he⟩ := exec_bind' he
  obtain ⟨rfl, _⟩ := exec_ret he
  simp only [List.all_cons, Bool.and_eq_true]
  exact ⟨canon_ok h1, canons_ok h2⟩
theorem canonSVs_ok {ks : List Key} : ∀ {vs vs' : List SV} {s s' : St}, (canonSVs ks vs).exec s = some (vs', s') → vs'.all argOk = true
 | [], _, _, _, he => by obtain ⟨rfl, _⟩ := exec_ret he; rfl
 | v :: vs, vs', s, s', he => by
  simp only [canonSVs] at he
  obtain ⟨v1, s1, h1, he⟩ := exec_bind' he
  obtain ⟨vs1, s2, h2, he⟩ := exec_bind' he
  obtain ⟨rfl, _⟩ := exec_ret he
  simp only [List.all_cons, Bool.and_eq_true]
  refine ⟨?_, canonSVs_ok h2⟩
  cases v with
  | one c =>
   simp only [canonSV] at h1
   obtain ⟨c1, s3, h3, he3⟩ := exec_bind' h1
   obtain ⟨rfl, _⟩ := exec_ret he3
   simp [argOk, SV.cells, canon_ok h3]
  | agg cs =>
   simp only [canonSV] at h1
   obtain ⟨c1, s3, h3, he3⟩ := exec_bind' h1
   obtain ⟨rfl, _⟩ := exec_ret he3
   exact canons_ok h3
  | _ => simp [canonSV, Prog.exec] at h1
def CallOK (P : Program) (f : FuncId) (F : AFun) : Prop :=
 ∀ (args : List SV) (boxes : List (List C)) (r : CallRes), F args boxes = some r → ∀ (w : World) (vals : Array Value) (β : Key → Option Nat) (ω : Nat → Option Holder) (Z : Nat → Prop),
  vals.size = args.length → args.all argOk = true → boxes.all (fun b => b.all (bok boxes.length)) = true → Rel (ctxOf P 0 w vals β ω Z) β ω Z (entrySt args boxes) { tmps := #[], defers := [] } w →
  ((callFunc f vals).run P w = .ok (.enter f vals) w ∧ Calls P f vals w fun e w' => ∃ v β' ω' Z', e = .returned v ∧ Rel (ctxOf P 1 w vals β ω Z) β' ω' Z' (exitSt args r) { tmps := #[v], defers := [] } w') ∨
  ∃ v w' β' ω' Z', (callFunc f vals).run P w = .ok (.value v) w' ∧ Rel (ctxOf P 1 w vals β ω Z) β' ω' Z' (exitSt args r) { tmps := #[v], defers := [] } w'
structure COK (P : Program) (cfg : Cfg) : Prop where
 tabs : Tabs P cfg
 calls : ∀ t f F, cfg.Γ t f = some F → CallOK P f F
section
variable {K : Ctx} {β : Key → Option Nat} {ω : Nat → Option Holder} {Z : Nat → Prop} {s : St} {a : Act} {w : World} {cfg : Cfg}
def Sim (K : Ctx) (s' : St) (a : Act) (w : World) (dst : Nat) (r : Result Next) (v : SV) : Prop :=
 Yield K s' a dst r v ∨ ∃ f args, r = .ok (.enter f args) w ∧ Calls K.P f args w fun e w' => ∃ u β' ω' Z', e = .returned u ∧ Rel K β' ω' Z' s' a w' ∧ Pend K β' ω' Z' s' a w' (.tmp dst) u v
theorem callee_spec (h : Rel K β ω Z s a w) {o : Operand} {f : FuncId} {caps : List SV} {s' : St} (he : (calleeP o).exec s = some ((f, caps), s')) :
  s' = s ∧ ∃ vs : Array Value, a.eval o = .func (.func f) #[] vs ∧ All2 (VRel K β Z s a w) vs.toList caps := by
 unfold calleeP at he
 split at he
 ·obtain ⟨hx, hs⟩ := exec_ret he
  cases hx
  exact ⟨hs, #[], rfl, trivial⟩
 ·obtain ⟨c, s1, h1, he2⟩ := exec_bind' he
  obtain ⟨hs1, o1, r1, hno1⟩ := ev1_spec h h1
  rw [hs1] at he2
  split at he2
  ·rename_i f' cs
   obtain ⟨hx, hs⟩ := exec_ret he2
   cases hx
   obtain ⟨vs, g1, g2⟩ := r1
   refine ⟨hs, vs, g1, ?_⟩
   have key : ∀ (us : List Value) (cs : List (Key × Nat)), All2 (fun u (p : Key × Nat) => ∃ b, β p.1 = some b ∧ u = .pointer (some ⟨b, p.2, none⟩)) us cs → All2 (VRel K β Z s a w) us (cs.map fun p => .one (.ptr p.1 p.2)) := by
    intro us
    induction us with
    | nil => intro cs h; cases cs with | nil => trivial | cons _ _ => exact h.elim
    | cons u us ih =>
     intro cs h
     cases cs with
     | nil => exact h.elim
     | cons p cs =>
      obtain ⟨⟨b, q1, q2⟩, q3⟩ := h
      exact ⟨⟨⟨by rw [q2]; rfl, b, q1, q2⟩, by simp [SV.cells, NoOwn], by simp⟩, ih cs q3⟩
   exact key _ _ g2
  ·simp [Prog.exec] at he2
theorem call_sim (hC : COK K.P cfg) (h : Rel K β ω Z s a w) {co : Operand} {args : Array Operand} {tys : Array TypeId} {dst : Nat} {o : Oper} (ho : o.op = .call { callee := .value co, args, argTypes := tys }) {v : SV} {s' : St} (he : (aval cfg o.op dst).exec s = some (v, s')) :
  Sim K s' a w dst ((execOp a.eval o).run K.P w) v := by
 rw [ho] at he
 simp only [aval] at he
 obtain ⟨⟨f, caps⟩, s1, h1, he2⟩ := exec_bind' he
 obtain ⟨hs1, cv, hcv, hcaps⟩ := callee_spec h h1
 simp only at he2
 rw [hs1] at he2
 obtain ⟨vs, s2, h2, he3⟩ := exec_bind' he2
 obtain ⟨hs2, hvs, hvs2⟩ := evs_spec h _ h2
 rw [hs2] at he3
 have hall0 : All2 (VRel K β Z s a w) (args.toList.map a.eval ++ cv.toList) (vs ++ caps) := by
  refine All2.append ?_ hcaps
  exact hvs.mono_mem fun u v hv hr => ⟨hr, hvs2 v hv⟩
 unfold callP at he3
 split at he3
 ·simp [Prog.exec] at he3
 ·rename_i F hF
  obtain ⟨vs1, s3, h3, he4⟩ := exec_bind' he3
  obtain ⟨ω1, Z1, r1, k1, p1⟩ := prepSVs_spec (cfg := cfg) _ _ ω Z s s3 vs1 h hall0 h3
  simp only at he4
  obtain ⟨more, s3', h3', he4b⟩ := exec_bind' he4
  have hs3' := boxKeys_spec _ _ _ h3'
  rw [hs3'] at he4b
  generalize hkk : dedup (keysOf (vs1.flatMap SV.cells) ++ more) = kk at he4b
  have hknd : kk.Nodup := by rw [← hkk]; exact dedup_nodup _
  obtain ⟨cargs, s4, h4, he5⟩ := exec_bind' he4b
  obtain ⟨hs4, hcan⟩ := canonSVs_spec _ _ s4 cargs r1 p1 (fun k hk => by rw [← hkk]; exact mem_dedup (List.mem_append_left _ hk)) h4
  rw [hs4] at he5
  obtain ⟨bs, s5, h5, he6⟩ := exec_bind' he5
  obtain ⟨hs5, hbl, hbx⟩ := getBoxes_spec _ s5 bs h5
  rw [hs5] at he6
  split at he6
  ·simp [Prog.exec] at he6
  ·rename_i r hr
   obtain ⟨_, s6, h6, he7⟩ := exec_bind' he6
   obtain ⟨⟨hlen, hfrz⟩, hs6⟩ := exec_need h6
   rw [hs6] at he7
   obtain ⟨_, s7, h7, he8⟩ := exec_bind' he7
   obtain ⟨_, s8, h8, he9⟩ := exec_bind' he8
   have hent := entry_rel r1 hknd hcan hbl hbx
   have hsz : (args.toList.map a.eval ++ cv.toList).toArray.size = cargs.length := by
    have := hcan.length
    simpa using this
   have hexec : (execOp a.eval o).run K.P w = (callFunc f (args.toList.map a.eval ++ cv.toList).toArray).run K.P w := by
    have e1 : args.map a.eval ++ cv = (args.toList.map a.eval ++ cv.toList).toArray := by
     apply Array.toList_inj.1
     simp
    simp [execOp, ho, resolve, hcv, Deferred.ofValue, invoke, e1]
   have hpl : bs.all (fun b => b.all (bok bs.length)) = true := by
    rw [List.all_eq_true]
    intro b hb
    obtain ⟨i, hi⟩ := List.getElem?_of_mem hb
    obtain ⟨cs, g1, _, g3⟩ := hbx i _ (List.getElem?_eq_getElem (by rw [← hbl]; exact (List.getElem?_eq_some_iff.1 hi).1))
    rw [hi] at g1
    cases g1
    rw [List.all_map, List.all_eq_true, hbl]
    exact fun c hc => bok_tc (tok_mem g3 hc)
   rcases hC.calls _ f F hF cargs bs r hr w _ _ _ _ hsz (canonSVs_ok h4) hpl hent with ⟨q1, q2⟩ | ⟨u, w', β', ω', Z', q1, q2⟩
   ·refine .inr ⟨f, _, by rw [hexec, q1], q2.mono fun e w' ⟨u, β', ω', Z', g1, g2⟩ => ?_⟩
    obtain ⟨β2, ω2, g3, g4⟩ := exit_rel r1 hknd hcan g2 (fun i k hi => by obtain ⟨cs, _, g, _⟩ := hbx i k hi; exact ⟨cs, g⟩) hfrz hlen h7 h8 he9
    exact ⟨u, β2, ω2, Z', g1, g3, g4⟩
   ·obtain ⟨β2, ω2, g3, g4⟩ := exit_rel r1 hknd hcan q2 (fun i k hi => by obtain ⟨cs, _, g, _⟩ := hbx i k hi; exact ⟨cs, g⟩) hfrz hlen h7 h8 he9
    exact .inl ⟨u, w', β2, ω2, Z', by rw [hexec, q1], g3, g4⟩
theorem aval_sim (hC : COK K.P cfg) (h : Rel K β ω Z s a w) {dst : Nat} {o : Oper} {v : SV} {s' : St} (he : (aval cfg o.op dst).exec s = some (v, s')) : Sim K s' a w dst ((execOp a.eval o).run K.P w) v := by
 have hT := hC.tabs
 cases ho : o.op with
 | move x => exact .inl (move_spec h ho he)
 | assign x => exact .inl (assign_spec h ho he)
 | pick c x y => exact .inl (pick_spec h ho he)
 | alloc t => exact .inl (alloc_yield hT h ho he)
 | box t x => exact .inl (box_yield h ho he)
 | build t ps => exact .inl (build_yield hT h ho he)
 | buildSlice t n ps => exact .inl (buildSlice_yield hT h ho he)
 | load t x => exact .inl (load_yield hT h ho he)
 | nilCheck x => exact .inl (nilCheck_spec h ho he)
 | binOp op t x y yt => exact .inl (bin_spec hT h ho he)
 | unOp op t x => exact .inl (un_spec h ho he)
 | convert a b x => exact .inl (convert_yield hT h ho he)
 | makeFunc fn first captured =>
  cases fn with
  | func f => exact .inl (makeFunc_yield h ho he)
  | _ => rw [ho] at he; simp [aval, Prog.exec] at he
 | makeSlice t l c => exact .inl (makeSlice_yield hT h ho he)
 | slice t x lo hi mx =>
  cases mx with
  | none => exact .inl (sub_spec hT h ho he)
  | some m => rw [ho] at he; simp [aval, Prog.exec] at he
 | fieldAddr t x f => exact .inl (fieldAddr_yield hT h ho he)
 | field t x f => exact .inl (field_yield hT h ho he)
 | indexAddr t x i => exact .inl (indexAddr_yield hT h ho he)
 | index t x i => exact .inl (index_yield hT h ho he)
 | extract x n => exact .inl (extract_yield h ho he)
 | makeMap t r =>
  cases r with
  | none => exact .inl (makeMap_yield hT h ho he)
  | some r => rw [ho] at he; simp [aval, Prog.exec] at he
 | lookup t x ix ok => exact .inl (lookup_yield hT h ho he)
 | range t x => exact .inl (range_yield hT h ho he)
 | next x b =>
  cases b with
  | false => exact .inl (next_yield h ho he)
  | true => rw [ho] at he; simp [aval, Prog.exec] at he
 | entry x => exact .inl (entry_yield h ho he)
 | mapEntry t m k => exact .inl (mapEntry_yield hT h ho he)
 | call c =>
  obtain ⟨callee, args, tys⟩ := c
  cases callee with
  | value co => exact call_sim hC h ho he
  | invoke r m => rw [ho] at he; simp [aval, Prog.exec] at he
  | builtin b =>
   cases b with
   | len => exact .inl (len_yield hT h ho he)
   | append => exact .inl (append_yield hT h ho he)
   | cap => exact .inl (cap_yield hT h ho he)
   | min => exact .inl (minmax_yield (b := true) h ho (by rw [ho] at he; exact he))
   | max => exact .inl (minmax_yield (b := false) h ho (by rw [ho] at he; exact he))
   | _ => rw [ho] at he; simp [aval, Prog.exec] at he
 | _ => rw [ho] at he; simp [aval, Prog.exec] at he
def Good (K : Ctx) (s : St) (a : Act) (w : World) : Prop := ∃ β ω Z, Rel K β ω Z s a w
theorem putTmp_good (hN : K.N = cfg.N) (h : Rel K β ω Z s a w) {t : Nat} {u : Value} {v : SV} (hp : Pend K β ω Z s a w (.tmp t) u v) {y : Unit} {s' : St} (he : (putTmp cfg t v).exec s = some (y, s')) : Good K s' (a.put (some t) u) w := by
 simp only [putTmp, Prog.exec] at he
 obtain ⟨_, s1, h1, he2⟩ := exec_bind' he
 obtain ⟨ht, hs1⟩ := exec_need h1
 rw [hs1] at he2
 simp only [putR, Prog.exec, Option.some.injEq, Prod.mk.injEq] at he2
 obtain ⟨_, rfl⟩ := he2
 exact ⟨β, ω, Z, h.putPend (by omega) hp⟩
theorem upd_sim (hT : Tabs K.P cfg) (h : Rel K β ω Z s a w) {t : TypeId} {m k x : Operand} {y : Unit} {s' : St}
  (he : (do let c ← ev1 m; let vk ← ev k; let vx ← ev x; mapUpdateP cfg t c vk vx : Prog Unit).exec s = some (y, s')) : ∃ w' β' ω' Z', (Instr.mapUpdate t (a.eval m) (a.eval k) (a.eval x)).run K.P w = .ok () w' ∧ Rel K β' ω' Z' s' a w' := by
 obtain ⟨c, s1, h1, he2⟩ := exec_bind' he
 obtain ⟨hs1, o1, r1, hno1⟩ := ev1_spec h h1
 rw [hs1] at he2
 obtain ⟨vk, s2, h2, he3⟩ := exec_bind' he2
 obtain ⟨hs2, hvk, hno2, hnu2⟩ := ev_spec h h2
 rw [hs2] at he3
 obtain ⟨vx, s3, h3, he4⟩ := exec_bind' he3
 obtain ⟨hs3, hvx, hnox, hnux⟩ := ev_spec h h3
 rw [hs3] at he4
 exact mapUpdate_spec hT h r1 hvk hvx hnox he4
theorem step0_sim (hC : COK K.P cfg) (hN : K.N = cfg.N) (h : Rel K β ω Z s a w) {o : Oper} {y : Unit} {s' : St} (he : (astep0 cfg o).exec s = some (y, s')) {Q : Exit → Act → World → Prop} {next : Act → World → Prop} (hK : ∀ a' w', Good K s' a' w' → next a' w') :
  o.wp K.P a w next Q := by
 unfold astep0 at he
 split at he
 ·rename_i t ad x ho hd
  split at he
  ·rename_i i hti
   obtain ⟨c, s1, h1, he2⟩ := exec_bind' he
   obtain ⟨hs1, o1, r1, hno1⟩ := ev1_spec h h1
   rw [hs1] at he2
   obtain ⟨v, s2, h2, he3⟩ := exec_bind' he2
   obtain ⟨hs2, hv, hno, hnu⟩ := ev_spec h h2
   rw [hs2] at he3
   obtain ⟨w', β', ω', Z', q1, q2⟩ := store_spec h (hC.tabs.T _ _ hti) r1 hv hno he3
   have hexec : (execOp a.eval o).run K.P w = .ok .skip w' := by simp [execOp, ho, q1]
   rw [Oper.wp, hexec, Oper.upon_skip, hd]
   exact hK _ _ ⟨β', ω', Z', q2⟩
  ·simp [Prog.exec] at he
 ·rename_i t m k x ho hd
  obtain ⟨w', β', ω', Z', q1, q2⟩ := upd_sim hC.tabs h he
  have hexec : (execOp a.eval o).run K.P w = .ok .skip w' := by simp [execOp, ho, q1]
  rw [Oper.wp, hexec, Oper.upon_skip, hd]
  exact hK _ _ ⟨β', ω', Z', q2⟩
 ·rename_i t m k x ho hd
  obtain ⟨w', β', ω', Z', q1, q2⟩ := upd_sim hC.tabs h he
  have hexec : (execOp a.eval o).run K.P w = .ok .skip w' := by simp [execOp, ho, q1]
  rw [Oper.wp, hexec, Oper.upon_skip, hd]
  exact hK _ _ ⟨β', ω', Z', q2⟩
 ·rename_i t m st x ho hd
  obtain ⟨c, s1, h1, he2⟩ := exec_bind' he
  obtain ⟨hs1, o1, r1, hno1⟩ := ev1_spec h h1
  rw [hs1] at he2
  obtain ⟨cs, s2, h2, he3⟩ := exec_bind' he2
  obtain ⟨hs2, o2, r2, hno2⟩ := ev1_spec h h2
  rw [hs2] at he3
  obtain ⟨vx, s3, h3, he4⟩ := exec_bind' he3
  obtain ⟨hs3, hvx, hnox, hnux⟩ := ev_spec h h3
  rw [hs3] at he4
  obtain ⟨w', β', ω', Z', q1, q2⟩ := entryStore_spec hC.tabs h r1 r2 hvx hnox he4
  have hexec : (execOp a.eval o).run K.P w = .ok .skip w' := by simp [execOp, ho, q1]
  rw [Oper.wp, hexec, Oper.upon_skip, hd]
  exact hK _ _ ⟨β', ω', Z', q2⟩
 ·rename_i d hns hd
  obtain ⟨v, s1, h1, he2⟩ := exec_bind' he
  rcases aval_sim hC h h1 with ⟨u, w', β', ω', Z', q1, q2, q3⟩ | ⟨f, args, q1, q2⟩
  ·rw [Oper.wp, q1, Oper.upon_value, hd]
   exact hK _ _ (putTmp_good hN q2 q3 he2)
  ·rw [Oper.wp, q1, Oper.upon_enter]
   refine q2.mono ?_
   rintro e w' ⟨u, β', ω', Z', rfl, g2, g3⟩
   simp only
   rw [hd]
   exact hK _ _ (putTmp_good hN g2 g3 he2)
 ·simp [Prog.exec] at he
theorem step_sim (hC : COK K.P cfg) (hN : K.N = cfg.N) {ops : Array Oper} {i : Nat} {o : Oper} (hi : ops[i]? = some o) {s s1 : St} {a : Act} {w : World} {Q : Exit → Act → World → Prop} {next : Act → World → Prop} (he : (astep cfg ops o).exec s = some ((), s1)) (hg : Good K s a w) (hK : ∀ a' w', Good K s1 a' w' → next a' w') :
  wpOp K.P ops Q i next a w := by
 obtain ⟨β, ω, Z, h⟩ := hg
 simp only [wpOp, hi]
 unfold astep at he
 split at he
 ·rename_i hgd
  have : Region.wanted o (yielded ops a.tmps) = true := by simp [Region.wanted, hgd]
  rw [if_pos this]
  exact .inl (step0_sim hC hN h he hK)
 ·rename_i j want hgd
  obtain ⟨b, s2, h2, he2⟩ := exec_bind' he
  have hy : s2 = s ∧ yielded ops a.tmps j = b := by
   unfold guardVal at h2
   split at h2
   ·rename_i t hd
    simp only [Prog.exec] at h2
    split at h2
    ·rename_i b' hv
     obtain ⟨hb, hs⟩ := exec_ret h2
     refine ⟨hs, ?_⟩
     have ht := h.tmps t
     rw [hv] at ht
     have hval : a.tmps.getD t undef = .bool b' := ht.2
     rw [hb]
     simp only [yielded, hd, Option.bind_some]
     cases hq : a.tmps[t]? with
     | none =>
      rw [Array.getD_eq_getD_getElem?, hq] at hval
      cases hval
     | some x =>
      rw [Array.getD_eq_getD_getElem?, hq] at hval
      simp only [Option.getD_some] at hval
      rw [hval]
    ·rename_i hv
     obtain ⟨hb, hs⟩ := exec_ret h2
     refine ⟨hs, ?_⟩
     have ht := h.tmps t
     rw [hv] at ht
     obtain ⟨vs, hval, hall⟩ := ht
     rw [hb]
     simp only [yielded, hd, Option.bind_some]
     cases hq : a.tmps[t]? with
     | none => rfl
     | some x =>
      rw [Array.getD_eq_getD_getElem?, hq] at hval
      simp only [Option.getD_some] at hval
      rw [hval]
    ·simp [Prog.exec] at h2
   ·simp [Prog.exec] at h2
  obtain ⟨hs2, hy⟩ := hy
  rw [hs2] at he2
  split at he2
  ·rename_i hb
   have : Region.wanted o (yielded ops a.tmps) = true := by simp [Region.wanted, hgd, hy, hb]
   rw [if_pos this]
   exact .inl (step0_sim hC hN h he2 hK)
  ·rename_i hb
   have : ¬ (Region.wanted o (yielded ops a.tmps) = true) := by simp [Region.wanted, hgd, hy, hb]
   rw [if_neg this]
   split at he2
   ·rename_i d hd
    rw [hd]
    exact hK _ _ (putTmp_good hN h (Pend.of_noOwn (u := undef) (v := .tup []) ⟨#[], rfl, trivial⟩ (by simp [SV.cells])) he2)
   ·rename_i hd
    obtain ⟨_, hs⟩ := exec_ret he2
    rw [hd]
    refine hK _ _ ?_
    rw [hs]
    exact ⟨β, ω, Z, h⟩
theorem ops_sim (hC : COK K.P cfg) (hN : K.N = cfg.N) {ops : Array Oper} {Q : Exit → Act → World → Prop} : ∀ (l : List Oper) (k : Nat) (s s' : St) (a : Act) (w : World), (∀ i, i < l.length → ops[k + i]? = l[i]?) → runOps cfg ops l s = some s' → Good K s a w → (∀ a' w', Good K s' a' w' → Q .normal a' w') →
  wpOps K.P ops Q (List.range' k l.length) a w := by
 intro l
 induction l with
 | nil =>
  intro k s s' a w _ h hg hK
  simp only [runOps, Option.some.injEq] at h
  subst h
  exact hK _ _ hg
 | cons o l ih =>
  intro k s s' a w hops h hg hK
  simp only [runOps] at h
  cases he : (astep cfg ops o).exec s with
  | none => rw [he] at h; cases h
  | some x =>
   obtain ⟨⟨⟩, s1⟩ := x
   rw [he] at h
   have ho : ops[k]? = some o := by have := hops 0 (by simp); simpa using this
   simp only [List.length_cons, List.range'_succ]
   rw [wpOps_cons]
   refine step_sim hC hN ho he hg fun a' w' hg' => ?_
   exact ih (k + 1) s1 s' a' w' (fun i hi => by
    have := hops (i + 1) (by simp; omega)
    rw [show k + 1 + i = k + (i + 1) by omega, this]; simp) h hg' hK
def edgesOk (ops : Array Oper) : Bool := ops.toList.zipIdx.all fun x => x.1.after.all fun e => !Region.binds .any e || decide (e.on < x.2)
theorem region_sim (hC : COK K.P cfg) (hN : K.N = cfg.N) (hmix : K.P.follows .mixedOrders = true) {id : Nat} {ops : Array Oper} {draw : Bool} {Q : Exit → Act → World → Prop} {s s' : St} {a : Act} {w : World} (h : runOps cfg ops ops.toList s = some s') (hd : draw = true → orderOk cfg ops s = true ∧ edgesOk ops = true)
  (hg : Good K s a w) (hK : ∀ a' w', Good K s' a' w' → Q .normal a' w') : (Code.region id ops draw).wp K.P Q a w := by
 cases draw with
 | false =>
  refine wp_region ?_
  have := ops_sim (Q := Q) hC hN ops.toList 0 s s' a w (by simp) h hg hK
  rw [List.range_eq_range']
  simpa using this
 | true =>
  obtain ⟨h1, h2⟩ := hd rfl
  refine wp_region_any hmix ?_
  unfold orderOk at h1
  cases hf : fpsOf cfg ops ops.toList s with
  | none => rw [hf] at h1; cases h1
  | some fps =>
   rw [hf] at h1
   obtain ⟨hrun, hlen⟩ := runF_of_runOps ops.toList 0 s s' fps [] (by simp) rfl h hf
   obtain ⟨β, ω, Z, hr⟩ := hg
   have hg' : Good K s a { w with drawn := w.drawn + 1 } := ⟨β, ω, Z, hr.drew.1⟩
   simp only [List.nil_append] at hrun
   refine anyOrder (P := K.P) (Q := Q) (s' := s') (Good K) (fun i o s s1 a w next ho he hg hK => step_sim hC hN ho he hg hK) hK (fun i j hij hj hn => pairsOk_spec h1 hij (by rw [hlen]; simpa using hj) hn) (fun i o ho e he hb => ?_) ops.size (List.range' 0 ops.toList.length) _ s a _ (by simp) (by simp) (List.pairwise_lt_range' _) (fun i => ?_) (fun i o ho hL => ?_) hrun hg'
   ·simp only [edgesOk, List.all_eq_true] at h2
    have hm : (o, i) ∈ ops.toList.zipIdx := by
     rw [List.mem_zipIdx_iff_getElem?]
     simpa using ho
    have := h2 _ hm
    simp only [Array.all_eq_true_iff_forall_mem, Bool.or_eq_true, Bool.not_eq_true', decide_eq_true_eq] at this
    rcases this e he with q | q
    ·rw [hb] at q; cases q
    ·exact q
   ·simp only [List.mem_range'_1, Array.length_toList, Nat.zero_le, true_and, Nat.zero_add]
    constructor
    ·intro hi; exact ⟨hi, by simp [Array.getD_eq_getD_getElem?, hi]⟩
    ·rintro ⟨hi, _⟩; exact hi
   ·simp only [Array.getD_eq_getD_getElem?, Array.getElem?_replicate] at hL
    split at hL <;> simp at hL
end
end Go.Vs
