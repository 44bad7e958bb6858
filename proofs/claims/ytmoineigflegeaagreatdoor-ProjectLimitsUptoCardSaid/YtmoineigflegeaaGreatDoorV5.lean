/- An evaluator of this program's code over plain values, proved sound: part 5. -/
import Derived.Laws.StructEq
import Derived.ChangeKeysEq
import Derived.Test.YtmoineigflegeaaGreatDoorV4
namespace Go.Ve
open Go.Vs
theorem frz1_eq (v : SVE) (j : Nat) : frz1 (cSV v) j = cSV (frz1E v j) := by
 have hat : (cSV v).cells.getD j .dead = cE (v.cells.getD j .dead) := by rw [cells_eq]; exact getD_map cE _ j .dead
 unfold frz1 frz1E
 rw [hat]
 cases hc : v.cells.getD j .dead with
 | l m t xs =>
  cases m with
  | own => simp only [cE, lC]; rw [setCell_eq]; rfl
  | _ => rfl
 | n m t o =>
  cases m with
  | own =>
   cases o with
   | none =>
    simp only [cE]
    rw [setCell_eq]
    symm
    have hlt : j < (cSV v).cells.length := by
     rw [cells_eq, cEs_length]
     by_cases h : j < v.cells.length
     ·exact h
     ·rw [List.getD_eq_getElem?_getD, List.getElem?_eq_none (by omega)] at hc; cases hc
    have := setCell_same (cSV v) j hlt
    rw [hat, hc] at this
    exact this
   | some xs => simp only [cE, lC]; rw [setCell_eq]; rfl
  | _ => cases o <;> rfl
 | gone b => cases b <;> rfl
 | _ => rfl
theorem frzArgs_eq : ∀ (l : List (Nat × Nat)) (A : List SVE), frzArgs l (A.map cSV) = (frzArgsE l A).map cSV
 | [], A => rfl
 | (i, j) :: r, A => by
  simp only [frzArgs, frzArgsE]
  rw [← frzArgs_eq r, lset_eq, List.map_set]
  congr 2
  have : (A.map cSV).getD i .undef = cSV (A.getD i .undef) := getD_map cSV A i .undef
  rw [this]
  exact frz1_eq _ j
theorem It.nrm_inst {i : It} (h : i.ok = true) (x : i.T) : ∀ c ∈ (i.inst x).cells, nrm c = c := by
 have shn : ∀ {h : Sh} (x : h.T), h.plain = true → nrm (h.inst x) = h.inst x := by
  intro h x hp
  cases h with
  | l m t => cases m <;> first | rfl | cases hp
  | n m t => cases m <;> first | rfl | cases hp
  | _ => rfl
 have rown : ∀ (t : Ty) (x : t.T), ∀ c ∈ cellsT t x, nrm c = c := by
  intro t
  induction t with
  | pair h t ih1 ih2 =>
   intro x c hc
   simp only [cellsT, List.mem_append] at hc
   rcases hc with hc | hc
   ·exact ih1 _ c hc
   ·exact ih2 _ c hc
  | ent u h t ih1 ih2 =>
   intro x c hc
   simp only [cellsT, List.mem_append] at hc
   rcases hc with hc | hc
   ·exact ih1 _ c hc
   ·exact ih2 _ c hc
  | set k ih => exact ih
  | _ => intro x c hc; simp only [cellsT, List.mem_singleton] at hc; subst hc; rfl
 have hts : ∀ (l : List Sh) (x : HT l), l.all Sh.plain = true → ∀ c ∈ HT.inst l x, nrm c = c := by
  intro l
  induction l with
  | nil => intro x _ c hc; cases hc
  | cons h r ih =>
   intro x hp c hc
   rw [List.all_cons, Bool.and_eq_true] at hp
   cases r with
   | nil => simp only [HT.inst, List.mem_singleton] at hc; subst hc; exact shn _ hp.1
   | cons h' r =>
    simp only [HT.inst, List.mem_cons] at hc
    rcases hc with rfl | hc
    ·exact shn _ hp.1
    ·exact ih _ hp.2 c hc
 cases i with
 | one h => intro c hc; simp only [It.inst, SVE.cells, List.mem_singleton] at hc; subst hc; exact shn x (by simp only [It.ok, Bool.and_eq_true] at h; exact h.1)
 | row t => exact rown t x
 | cells l => exact hts l x h
 | _ => intro c hc; simp only [It.inst, SVE.cells, List.mem_singleton] at hc; subst hc; rfl
theorem IT.nrm_inst : ∀ (l : List It) (x : IT l), l.all It.ok = true → ∀ v ∈ IT.inst l x, ∀ c ∈ v.cells, nrm c = c
 | [], _, _ => fun v hv => by cases hv
 | i :: r, x, h => by
  rw [List.all_cons, Bool.and_eq_true] at h
  intro v hv
  simp only [IT.inst, List.mem_cons] at hv
  rcases hv with rfl | hv
  ·exact It.nrm_inst h.1 _
  ·exact IT.nrm_inst r _ h.2 v hv
theorem idx_app {k : Key} : ∀ {l r : List Key}, k ∈ l → idx k (l ++ r) = idx k l
 | q :: l, r, h => by
  show (if k = q then 0 else idx k (l ++ r) + 1) = if k = q then 0 else idx k l + 1
  by_cases e : k = q
  ·rw [if_pos e, if_pos e]
  ·rw [if_neg e, if_neg e, idx_app (by rcases List.mem_cons.1 h with h | h; exact absurd h e; exact h)]
theorem idx_inbs {i n : Nat} {r : List Key} (h : i < n) : idx (.inb i) (inbs n ++ r) = i := by
 have hm : Key.inb i ∈ inbs n := List.mem_map.2 ⟨i, List.mem_range.2 h, rfl⟩
 rw [idx_app hm]
 exact idx_get (inbs_nodup n) (inbs_get h)
theorem instB_nrm {S : Sig} (hok : S.ok = true) (x : S.X) : ∀ b ∈ S.instB x, ∀ c ∈ b, nrm c = c := by
 intro b hb c hc
 obtain ⟨v, hv, rfl⟩ := List.mem_map.1 hb
 simp only [Sig.ok, Bool.and_eq_true] at hok
 refine IT.nrm_inst _ x (by rw [List.all_append, hok.1.1, hok.1.2]; rfl) v (List.mem_of_mem_drop hv) c ?_
 cases v <;> first | exact hc | (simp [boxCells] at hc)
theorem startBoxes_get (A : List SVE) (B : List (List E)) (m : Nat) : (stOf A (startE A B)).get (.box (.inb m)) = { v := match B[m]? with | some b => .agg b | none => .undef } := by
 rw [stOf_box]
 have : ∀ (B : List (List E)) (i m : Nat), lkB (.inb m) (startBoxesE i B) = if i ≤ m then B[m - i]? else none := by
  intro B
  induction B with
  | nil => intro i m; simp [startBoxesE, lkB]
  | cons b B ih =>
   intro i m
   simp only [startBoxesE, lkB, keqb]
   by_cases h : m = i
   ·subst h; simp
   ·rw [show (m == i) = false by simpa using h, ih]
    by_cases h2 : i ≤ m
    ·rw [if_pos (by omega), if_pos h2, show m - i = (m - (i + 1)) + 1 by omega]; simp
    ·rw [if_neg (by omega), if_neg h2]
 show ({ v := match lkB (.inb m) (startBoxesE 0 B) with | some cs => .agg cs | none => .undef } : RVE) = _
 rw [this B 0 m]
 simp
def bodyOf (fn : Func) : Code := match fn.body with | some c => c | none => .skip
theorem fn_sig0 {P : Program} {f : FuncId} {fn : Func} {c : Code} {F : VFE} {tbl : Nat → Option LoopRec} {S : Sig} {sh : S.X → Option S.Y} (hf : P.funcs[f]? = some fn) (hb : fn.body = some c) (hmix : P.follows .mixedOrders = true) (hC : COK P F.cfg.c)
  (hN : fn.ntmps = F.cfg.N) (hok : S.ok = true) (hargs : S.args.length ≤ F.cfg.N) (hbk : ∀ x, okBk (S.instA x) (inbs S.boxes.length) F.bkeys = true) (hrun : ∀ x y, sh x = some y → (evF F tbl c fn.results.toList S x).run = some y) : FnCalls P f (S.F sh) := by
 intro args boxes r hF w vals β ω Z hsz hokA hpl hent
 unfold Sig.F at hF
 split at hF
 ·rename_i x hx
  split at hF
  ·rename_i y hy
   cases hF
   obtain ⟨rfl, rfl⟩ := Sig.dec_some S hok hx
   have hrun := hrun x y hy
   refine calls_of_wp hf hb ?_
   have hlenA : ((S.instA x).map cSV).length = S.args.length := by rw [List.length_map, Sig.instA_length]
   have hlenB : ((S.instB x).map cEs).length = S.boxes.length := by rw [List.length_map, Sig.instB_length]
   have hstart := start_rel (N := fn.ntmps) hent hsz hokA hpl (by rw [hN, hlenA]; exact hargs)
   have hek := entry_keys hent
   have hfok : FOK (ctxOf P fn.ntmps w vals β ω Z) (S.instA x) (inbs S.boxes.length) := by
    refine ⟨by show vals.size = _; rw [hsz, List.length_map], fun k b hk => ?_⟩
    obtain ⟨i, hi, rfl⟩ := hek k b hk
    rw [hlenB] at hi
    exact List.mem_map.2 ⟨i, List.mem_range.2 hi, rfl⟩
   have hall := (Tr.all_iff _ (fun z => z = y)).2 ⟨y, hrun, rfl⟩
   unfold evF at hall
   rw [all_bind] at hall
   have hall2 := Tr.all_and hall (Tr.each_box (evC_keep (F := F) (tbl := tbl) hfok c 0 (startE (S.instA x) (S.instB x))))
   have hp0 : PRel (ctxOf P fn.ntmps w vals β ω Z) (cPS (S.instA x) (startE (S.instA x) (S.instB x))) { tmps := vals ++ Array.replicate (fn.ntmps - vals.size) undef, defers := [] } w := by
    rw [cPS_start]
    exact ⟨⟨β, ω, Z, hstart⟩, by show ((S.instA x).map cSV).length = vals.size; omega⟩
   refine wp_mono (evC_sound (K := ctxOf P fn.ntmps w vals β ω Z) (tbl := tbl) hC hN hmix hfok (hbk x) c 0 _ _ _ w hall2 hp0) ?_
   rintro e a w' ⟨⟨ex, p'⟩, rfl, ⟨hfin, hkeep⟩, hpr⟩
   have hex : ex = .normal ∨ ex = .ret := by
    cases ex with
    | exit i => exact hfin.elim
    | normal => exact .inl rfl
    | ret => exact .inr rfl
   have hfin2 : (((exitE F.cfg.c fn.results.toList (S.instB x).length).both (stOf (S.instA x) p')).bind fun y =>
     match decide (y.2.1.frz = S.frz) with
     | true => match S.matY y.2.1.dirty (S.instB x) y.1.1 y.1.2 with
      | some z => Tr.leaf z
      | none => .fail
     | false => .fail).all (fun z => z = y) := by
    rcases hex with rfl | rfl <;> exact hfin
   rw [all_bind] at hfin2
   have h1 := Tr.all_and (Tr.all_and (Tr.all_and hfin2 (exitE_sim F.cfg.c fn.results.toList (S.instB x).length (stOf (S.instA x) p'))) (Tr.each_box (exitE_holds F.cfg.c fn.results.toList (S.instB x).length (stOf (S.instA x) p')))) (Tr.each_box (both_step (exitE F.cfg.c fn.results.toList (S.instB x).length) (stOf (S.instA x) p') (isBox_stOf _ p')))
   obtain ⟨⟨⟨v, bs⟩, s', fr, fw⟩, _, ⟨⟨h2, h3⟩, h4⟩, h5⟩ := (Tr.all_iff _ _).1 h1
   simp only at h2 h3 h4 h5
   split at h2
   ·rename_i hfz
    have hfz : s'.frz = S.frz := of_decide_eq_true hfz
    split at h2
    ·rename_i z hz
     have e : z = y := h2
     subst e
     obtain ⟨ks, hholds⟩ := h4
     obtain ⟨_, hargs', l, hl, hk5⟩ := h5
     obtain ⟨⟨l0, hl0⟩, hk0⟩ := hkeep
     have hkall : Keep s'.dirty (stOf (S.instA x) (startE (S.instA x) (S.instB x))) s' := by
      refine Keep.trans ?_ hk5
      rw [hl]
      exact hk0.more
     have hmat := matY_eq hz (fun m b c hb hc hw j u v hp hu hv huv => by
      have hm : m < S.boxes.length := by
       have := (List.getElem?_eq_some_iff.1 hb).1
       rwa [Sig.instB_length] at this
      have hhold : ∃ o, (s'.get (.box (.inb m))).v = .agg o ∧ o.all (tokE (inbs (S.instB x).length ++ ks)) = true ∧ c = o.map (tcE (inbs (S.instB x).length ++ ks)) := by
       have gen : ∀ (kk ks : List Key) (bs : List (List E)) (i : Nat) (k : Key) (c : List E), Holds kk s' ks bs → ks[i]? = some k → bs[i]? = some c → ∃ o, (s'.get (.box k)).v = .agg o ∧ o.all (tokE kk) = true ∧ c = o.map (tcE kk) := by
        intro kk ks
        induction ks with
        | nil => intro bs i k c _ h; simp at h
        | cons q ks ih =>
         intro bs i k c hh hk hc
         cases bs with
         | nil => exact hh.elim
         | cons b bs =>
          cases i with
          | zero => simp only [List.getElem?_cons_zero, Option.some.injEq] at hk hc; subst hk hc; exact hh.1
          | succ i => exact ih bs i k c hh.2 (by simpa using hk) (by simpa using hc)
       refine gen _ _ bs m _ c hholds ?_ hc
       rw [Sig.instB_length, List.getElem?_append_left (by simpa [inbs] using hm)]
       simp [inbs, List.getElem?_range hm]
      obtain ⟨orig, hhold, htok, rfl⟩ := hhold
      have hkb := hkall.2 (.inb m) hw
      rw [startBoxes_get, hb, hhold] at hkb
      rcases hkb with hkb | ⟨cs, cs', g1, g2, g3, g4⟩
      ·cases hkb
      ·cases g1
       cases g2
       rw [List.getElem?_map] at hv
       cases hvo : orig[j]? with
       | none => rw [hvo] at hv; cases hv
       | some v0 =>
        rw [hvo] at hv
        simp only [Option.map_some, Option.some.injEq] at hv
        obtain ⟨u', q1, q2⟩ := g4 j hp v0 hvo
        rw [hu] at q1
        cases q1
        have hn := instB_nrm hok x b (List.mem_of_getElem? hb) u (List.mem_of_getElem? hu)
        have hv0 : usable v0 = true := by
         cases v0 with
         | ptr k off => rfl
         | _ => rw [← hv] at huv; exact huv
        have e := usable_wk q2 hv0
        rw [hn] at e
        subst e
        rw [← hv]
        cases v0 with
        | ptr k off =>
         obtain ⟨i, rfl, hi⟩ := instB_ptr hok x b (List.mem_of_getElem? hb) _ (List.mem_of_getElem? hu) k off rfl
         show E.ptr (.inb (idx (.inb i) (inbs (S.instB x).length ++ ks))) off = _
         rw [idx_inbs (by rw [Sig.instB_length]; exact hi)]
        | _ => rfl)
     obtain ⟨hv, hbs⟩ := hmat
     obtain ⟨β1, ω1, Z1, hr⟩ := hpr.1
     have hexec : (exitP F.cfg.c fn.results.toList S.boxes.length).exec (cPS (S.instA x) p').st = some ((cSV v, bs.map cEs), cSt s') := by
      obtain ⟨fr, fw, h3, _, _⟩ := h3
      have h3 : (exitP F.cfg.c fn.results.toList (S.instB x).length).both (cSt (stOf (S.instA x) p')) = some ((cSV v, bs.map cEs), cSt s', fr, fw) := h3
      rw [cSt_stOf, both_spec, Sig.instB_length] at h3
      cases hx : (exitP F.cfg.c fn.results.toList S.boxes.length).exec (cPS (S.instA x) p').st with
      | none => rw [hx] at h3; cases h3
      | some q => rw [hx] at h3; simp only [Option.map_some, Option.some.injEq, Prod.mk.injEq] at h3; obtain ⟨e1, e2, _⟩ := h3; cases q; simp only at e1 e2; rw [e1, e2]
     rw [hv, hbs] at hexec
     have hek2 : ∀ k b, β k = some b → ∃ i, i < S.boxes.length ∧ k = .inb i := by
      intro k b hk
      obtain ⟨i, hi, h⟩ := hek k b hk
      exact ⟨i, by rw [← hlenB]; exact hi, h⟩
     obtain ⟨u, β', ω', Z', g1, g2⟩ := exit_good (r := { v := cSV (S.out z (S.flag z)).1, boxes := (newBoxes (S.instB x) (S.out z (S.flag z)).2).map cEs, frz := S.frz }) hC.tabs hr hsz hokA hent.args hek2 hexec (fun i hi => by
      show (cRV (s'.get (.arg i))).v = (frzArgs S.frz ((S.instA x).map cSV)).getD i .undef
      rw [frzArgs_eq, ← hfz]
      have : ((frzArgsE s'.frz (S.instA x)).map cSV).getD i .undef = cSV ((frzArgsE s'.frz (S.instA x)).getD i .undef) := getD_map cSV _ i .undef
      rw [this]
      show cSV ((frzArgsE s'.frz s'.args).getD i .undef) = _
      rw [hargs']
      rfl)
     have hbp : bodyPost P fn (fun e w' => ∃ v β' ω' Z', e = .returned v ∧ Rel (ctxOf P 1 w vals β ω Z) β' ω' Z' (exitSt ((S.instA x).map cSV) { v := cSV (S.out z (S.flag z)).1, boxes := (newBoxes (S.instB x) (S.out z (S.flag z)).2).map cEs, frz := S.frz }) { tmps := #[v], defers := [] } w') .ret a w' :=
      ⟨hr.defers, u, g1, u, β', ω', Z', rfl, g2⟩
     rcases hex with rfl | rfl
     ·exact hbp
     ·exact hbp
    ·exact h2.elim
   ·exact h2.elim
  ·cases hF
 ·cases hF
def hasBody (fn : Func) : Bool := match fn.body with | some _ => true | none => false
def gives (F : VFE) (tbl : Nat → Option LoopRec) (fn : Func) (S : Sig) (x : S.X) : Option S.Y := (evF F tbl (bodyOf fn) fn.results.toList S x).run
theorem fn_sig {P : Program} {f : FuncId} {fn : Func} {F : VFE} {tbl : Nat → Option LoopRec} {S : Sig} {sh : S.X → Option S.Y} (hf : P.funcs[f]? = some fn) (hb : hasBody fn = true) (hmix : P.follows .mixedOrders = true) (hC : COK P F.cfg.c)
  (hN : fn.ntmps = F.cfg.N) (hok : S.ok = true) (hargs : S.args.length ≤ F.cfg.N) (hbk : ∀ x, okBk (S.instA x) (inbs S.boxes.length) F.bkeys = true) (hrun : ∀ x, gives F tbl fn S x = sh x) : FnCalls P f (S.F sh) := by
 have hc : fn.body = some (bodyOf fn) := by
  unfold hasBody at hb
  unfold bodyOf
  cases h : fn.body with
  | none => rw [h] at hb; cases hb
  | some c => rfl
 exact fn_sig0 hf hc hmix hC hN hok hargs hbk fun x y h => (hrun x).trans h
theorem con_good {P : Program} {f : FuncId} {fn : Func} {S : Sig} {sh : S.X → Option S.Y} (hf : P.funcs[f]? = some fn) (hname : (fn.name == "runtime.NumGoroutine") = false) (hb : hasBody fn = true) (h : FnCalls P f (S.F sh)) : CallOK P f (S.F sh) := by
 have hc : fn.body = some (bodyOf fn) := by
  unfold hasBody at hb
  unfold bodyOf
  cases h : fn.body with
  | none => rw [h] at hb; cases hb
  | some c => rfl
 exact fn_ok hf hname hc h
end Go.Ve
namespace Go.Ve
open Go.Vs
def lkF (f : FuncId) : List (FuncId × Con) → Option Con
 | [] => none
 | (g, K) :: r => match f == g with
  | true => some K
  | false => lkF f r
theorem lkF_mem {f : FuncId} : ∀ {l : List (FuncId × Con)} {K : Con}, lkF f l = some K → (f, K) ∈ l
 | (g, K') :: r, K, h => by
  simp only [lkF] at h
  split at h
  ·rename_i e; cases h; have : f = g := by simpa using e
   subst this; simp
  ·exact List.mem_cons_of_mem _ (lkF_mem h)
def Good1 (P : Program) (x : FuncId × Con) : Prop := CallOK P x.1 x.2.F
theorem cok_list {P : Program} {e : ECfg} {l : List (FuncId × Con)} (hT : Tabs P e.c) (hcon : e.con = fun _ f => lkF f l) (h : ∀ x ∈ l, Good1 P x) : COK P e.c := by
 refine ⟨hT, fun t f F hf => ?_⟩
 have hf : (match e.con t f with | some K => some K.F | none => none) = some F := hf
 rw [hcon] at hf
 simp only at hf
 split at hf
 ·rename_i K hK
  cases hf
  exact h _ (lkF_mem hK)
 ·cases hf
def lkS (t : Nat) (f : FuncId) (l : List (FuncId × Con)) : List (Nat × FuncId × Con) → Option Con
 | [] => lkF f l
 | (u, g, K) :: r => match t == u && f == g with
  | true => some K
  | false => lkS t f l r
theorem lkS_mem {t : Nat} {f : FuncId} {l : List (FuncId × Con)} : ∀ {s : List (Nat × FuncId × Con)} {K : Con}, lkS t f l s = some K → (f, K) ∈ l ∨ (t, f, K) ∈ s
 | [], K, h => .inl (lkF_mem h)
 | (u, g, K') :: r, K, h => by
  simp only [lkS] at h
  split at h
  ·rename_i e
   simp only [Bool.and_eq_true, beq_iff_eq] at e
   cases h
   obtain ⟨rfl, rfl⟩ := e
   exact .inr (List.mem_cons_self ..)
  ·rcases lkS_mem h with h | h
   ·exact .inl h
   ·exact .inr (List.mem_cons_of_mem _ h)
theorem cok_sites {P : Program} {e : ECfg} {l : List (FuncId × Con)} {s : List (Nat × FuncId × Con)} (hT : Tabs P e.c) (hcon : e.con = fun t f => lkS t f l s) (h : ∀ x ∈ l, Good1 P x) (hs : ∀ x ∈ s, Good1 P x.2) : COK P e.c := by
 refine ⟨hT, fun t f F hf => ?_⟩
 have hf : (match e.con t f with | some K => some K.F | none => none) = some F := hf
 rw [hcon] at hf
 simp only at hf
 split at hf
 ·rename_i K hK
  cases hf
  rcases lkS_mem hK with h' | h'
  ·exact h _ h'
  ·exact hs _ h'
 ·cases hf
theorem good_of {P : Program} {f : FuncId} {fn : Func} {S : Sig} {hok : S.ok = true} {sh : S.X → Option S.Y} (hf : P.funcs[f]? = some fn) (hname : (fn.name == "runtime.NumGoroutine") = false) (hb : hasBody fn = true) (h : FnCalls P f (S.F sh)) : Good1 P (f, S.con hok sh) := con_good hf hname hb h
def tyFs (f : TypeId → Option Ty) : List (Nat × TypeId) → Option Ty
 | [] => none
 | (_, t) :: r => match r with
  | [] => f t
  | x :: r => match f t, tyFs f (x :: r) with
   | some a, some b => some (.pair a b)
   | _, _ => none
def tyOf (cfg : Cfg) : Nat → TypeId → Option Ty
 | 0, _ => none
 | n + 1, t => match cfg.ti t with
  | some { kind := .bool, .. } => some .bool
  | some { kind := .int k, .. } => some (.int k)
  | some { kind := .str, .. } => some .str
  | some { kind := .slice e, .. } => match cfg.ti e, tyOf cfg n e with
   | some i, some r => if i.size = r.e then some (.sl r) else none
   | _, _ => none
  | some { kind := .struct fs, .. } => tyFs (tyOf cfg n) fs
  | _ => none
def Wf : (t : Ty) → t.T → Prop
 | .int k, x => k.min ≤ x ∧ x ≤ k.max
 | .bool, _ => True
 | .str, _ => True
 | .sl r, o => match o with
  | none => True
  | some xs => ∀ x ∈ xs, Wf r x
 | .pair h t, x => Wf h x.1 ∧ Wf t x.2
 | .ent _ h t, x => Wf h x.1 ∧ Wf t x.2
 | .set k, x => Wf k x
def bulkT : (t : Ty) → t.T → Nat
 | .int _, _ => 1
 | .bool, _ => 1
 | .str, s => s.length + 1
 | .sl r, o => match o with
  | none => 1
  | some xs => (xs.map (bulkT r)).sum + 1
 | .pair h t, x => bulkT h x.1 + bulkT t x.2
 | .ent _ h t, x => bulkT h x.1 + bulkT t x.2
 | .set k, x => bulkT k x
theorem bulkT_eq : ∀ (t : Ty) (x : t.T), bulkL (encR t x) = bulkT t x
 | .int _, _ => rfl
 | .bool, _ => rfl
 | .str, s => by simp [encR, bulkL, bulkD, bulkT]
 | .sl r, o => by
  cases o with
  | none => rfl
  | some xs =>
   simp only [encR, bulkL, bulkD, bulkT, Nat.add_zero]
   congr 1
   induction xs with
   | nil => rfl
   | cons x xs ih => simp only [List.map_cons, bulkLL, List.sum_cons, bulkT_eq r x, ih]
 | .pair h t, x => by simp only [encR, bulkL_append, bulkT_eq h x.1, bulkT_eq t x.2, bulkT]
 | .ent _ h t, x => by simp only [encR, bulkL_append, bulkT_eq h x.1, bulkT_eq t x.2, bulkT]
 | .set k, x => by simp only [encR, bulkT_eq k x, bulkT]
theorem wf_fs {W : TypeId → List D → Prop} {f : TypeId → Option Ty} (h : ∀ t ds ty, W t ds → f t = some ty → ∃ x : ty.T, ds = encR ty x ∧ Wf ty x) : ∀ (fs : List (Nat × TypeId)) (ds : List D) (ty : Ty), WfFs W fs ds → tyFs f fs = some ty → ∃ x : ty.T, ds = encR ty x ∧ Wf ty x
 | [], ds, ty, _, e => by cases e
 | (o, t) :: r, ds, ty, hw, e => by
  obtain ⟨a, b, rfl, h1, h2⟩ := hw
  cases r with
  | nil =>
   have h2 : b = [] := h2
   subst h2
   rw [List.append_nil]
   exact h t a ty h1 e
  | cons y r =>
   simp only [tyFs] at e
   split at e
   ·rename_i ta tb e1 e2
    cases e
    obtain ⟨x, rfl, w1⟩ := h t a ta h1 e1
    obtain ⟨z, rfl, w2⟩ := wf_fs h (y :: r) b tb h2 e2
    exact ⟨(x, z), rfl, w1, w2⟩
   ·cases e
theorem wf_data {cfg : Cfg} : ∀ (n : Nat) (t : TypeId) (ds : List D) (ty : Ty), WfD cfg n t ds → tyOf cfg n t = some ty → ∃ x : ty.T, ds = encR ty x ∧ Wf ty x := by
 intro n
 induction n with
 | zero => intro t ds ty h; exact h.elim
 | succ n ih =>
  intro t ds ty h e
  simp only [WfD] at h
  simp only [tyOf] at e
  split at e
  ·rename_i hti; rw [hti] at h; cases e; obtain ⟨b, rfl⟩ := h; exact ⟨b, rfl, trivial⟩
  ·rename_i hti; rw [hti] at h; cases e; obtain ⟨x, rfl, h2⟩ := h; exact ⟨x, rfl, h2⟩
  ·rename_i hti; rw [hti] at h; cases e; obtain ⟨x, rfl, _⟩ := h; exact ⟨x, rfl, trivial⟩
  ·rename_i et _ hti
   rw [hti] at h
   simp only at h
   split at e
   ·rename_i i r hi hr
    rw [hi] at h
    simp only at h
    split at e
    ·rename_i hw
     cases e
     rcases h with rfl | ⟨xs, rfl, hlen, hx⟩
     ·exact ⟨none, rfl, trivial⟩
     ·have : ∃ ys : List r.T, xs = ys.map (encR r) ∧ ∀ y ∈ ys, Wf r y := by
       clear hlen
       induction xs with
       | nil => exact ⟨[], rfl, by simp⟩
       | cons x xs ihx =>
        obtain ⟨y, e1, w1⟩ := ih et x r (hx x (List.mem_cons_self ..)) hr
        obtain ⟨ys, e2, w2⟩ := ihx fun z hz => hx z (List.mem_cons_of_mem _ hz)
        exact ⟨y :: ys, by rw [e1, e2]; rfl, by
         intro z hz
         simp only [List.mem_cons] at hz
         rcases hz with rfl | hz
         ·exact w1
         ·exact w2 z hz⟩
      obtain ⟨ys, rfl, hw2⟩ := this
      exact ⟨some ys, by rw [hw]; rfl, hw2⟩
    ·cases e
   ·cases e
  ·rename_i fs _ hti
   rw [hti] at h
   exact wf_fs (fun t ds ty => ih t ds ty) fs ds ty h e
  ·cases e
def itemOf (cfg : Cfg) (n : Nat) (t : TypeId) : Option It :=
 match cfg.ti t with
 | some i => match i.kind.agg, tyOf cfg n t with
  | true, some ty => some (.row ty)
  | false, some (.int k) => some (.one (.i k))
  | false, some .bool => some (.one .b)
  | false, some .str => some (.one .s)
  | false, some (.sl r) => some (.one (.n .data r))
  | _, _ => none
 | none => none
def itemsOf (cfg : Cfg) (n : Nat) : List TypeId → Option (List It)
 | [] => some []
 | t :: r => match itemOf cfg n t, itemsOf cfg n r with
  | some i, some l => some (i :: l)
  | _, _ => none
def WfS : (h : Sh) → h.T → Prop
 | .i k, x => k.min ≤ x ∧ x ≤ k.max
 | .b, _ => True
 | .s, _ => True
 | .l _ t, xs => ∀ x ∈ xs, Wf t x
 | .n _ t, o => Wf (.sl t) o
 | .p _ _, _ => True
def bulkS : (h : Sh) → h.T → Nat
 | .i _, _ => 1
 | .b, _ => 1
 | .s, x => x.length + 1
 | .l _ t, xs => (xs.map (bulkT t)).sum + 1
 | .n _ t, o => bulkT (.sl t) o
 | .p _ _, _ => 0
def WfI : (i : It) → i.T → Prop
 | .one h, x => WfS h x
 | .row t, x => Wf t x
 | _, _ => True
def bulkI : (i : It) → i.T → Nat
 | .one h, x => bulkS h x
 | .row t, x => bulkT t x
 | _, _ => 0
def WfIT : (l : List It) → IT l → Prop
 | [], _ => True
 | i :: r, x => WfI i (IT.hd i r x) ∧ WfIT r (IT.tl IT.dflt i r x)
def bulkIT : (l : List It) → IT l → Nat
 | [], _ => 0
 | i :: r, x => bulkI i (IT.hd i r x) + bulkIT r (IT.tl IT.dflt i r x)
theorem wf_item {cfg : Cfg} {n : Nat} {t : TypeId} {ds : List D} {i : It} (h : WfD cfg n t ds) (e : itemOf cfg n t = some i) : ∃ x : i.T, toSV cfg t ds = cSV (i.inst x) ∧ WfI i x ∧ bulkI i x = bulkL ds := by
 unfold itemOf at e
 unfold toSV
 split at e
 ·rename_i ti hti
  rw [hti]
  simp only
  split at e
  ·rename_i ty ha hty
   cases e
   obtain ⟨x, rfl, hw⟩ := wf_data n t ds ty h hty
   rw [if_pos ha]
   refine ⟨x, ?_, hw, (bulkT_eq ty x).symm⟩
   show _ = SV.agg (cEs (cellsT ty x))
   rw [cells_enc]
  ·rename_i k ha hty
   cases e
   obtain ⟨x, rfl, hw⟩ := wf_data n t ds _ h hty
   rw [if_neg (by simp [ha])]
   exact ⟨x, rfl, hw, rfl⟩
  ·rename_i ha hty
   cases e
   obtain ⟨x, rfl, hw⟩ := wf_data n t ds _ h hty
   rw [if_neg (by simp [ha])]
   exact ⟨x, rfl, hw, rfl⟩
  ·rename_i ha hty
   cases e
   obtain ⟨x, rfl, hw⟩ := wf_data n t ds _ h hty
   rw [if_neg (by simp [ha])]
   exact ⟨x, rfl, hw, (bulkT_eq .str x).symm⟩
  ·rename_i r ha hty
   cases e
   obtain ⟨x, rfl, hw⟩ := wf_data n t ds _ h hty
   rw [if_neg (by simp [ha])]
   refine ⟨x, ?_, hw, (bulkT_eq (.sl r) x).symm⟩
   cases x <;> rfl
  ·cases e
 ·cases e
theorem itemOf_has {cfg : Cfg} {n : Nat} {t : TypeId} {i : It} (e : itemOf cfg n t = some i) : i.has = true := by
 unfold itemOf at e
 split at e
 ·split at e <;> first | (cases e; rfl) | (cases e; done)
 ·cases e
theorem wf_items {cfg : Cfg} {n : Nat} : ∀ (ts : List TypeId) (dss : List (List D)) (l : List It), dss.length = ts.length → Vs.All2 (fun t x => WfD cfg n t x) ts dss → itemsOf cfg n ts = some l → ∃ x : IT l, svsOf cfg ts dss = (IT.inst l x).map cSV ∧ WfIT l x ∧ bulkIT l x = bulkLL dss
 | [], [], l, _, _, e => by cases e; exact ⟨(), rfl, trivial, rfl⟩
 | t :: ts, ds :: dss, l, hl, hw, e => by
  simp only [itemsOf] at e
  split at e
  ·rename_i i r h1 h2
   cases e
   obtain ⟨x, e1, w1, b1⟩ := wf_item hw.1 h1
   obtain ⟨y, e2, w2, b2⟩ := wf_items ts dss r (by simpa using hl) hw.2 h2
   refine ⟨IT.cons i r x y, ?_, ?_, ?_⟩
   ·simp only [svsOf, IT.inst, List.map_cons, IT.hd_cons, IT.tl_cons, e1, e2]
   ·simp only [WfIT, IT.hd_cons, IT.tl_cons]; exact ⟨w1, w2⟩
   ·simp only [bulkIT, IT.hd_cons, IT.tl_cons, bulkLL, b1, b2]
  ·cases e
 | [], _ :: _, _, h, _, _ => by simp at h
 | _ :: _, [], _, h, _, _ => by simp at h
open Go.ChangeShapes in
theorem law_typed {H : Type} {enc : TypeId × Value → H} {P : Program} {W : World} {cfg : Cfg} {base : Nat} {args : Array Value} {ds gs : List (DataW H)} {before : List MemPlace} {f : FuncId} {fn : Func} {sp : ChangeSpec} {n m : Nat} {ts : List TypeId} {tb : TypeId} {l : List It}
  {sh : IT (l ++ []) → Option Bool} (hok : Sig.ok { args := l, res := [.one .b] } = true) (hF : FnCalls P f (Sig.F { args := l, res := [.one .b] } sh)) (hT : Tabs P cfg) (hvars : sp.vars = []) (hparams : fn.params.toList = ts) (hrt : fn.resultTypes = #[tb]) (hbool : P.underlying tb = some .bool)
  (hitems : itemsOf cfg n ts = some l)
  (hplain : ∀ t ∈ ts, plainT cfg n t = true) (hlaid : laidOutB P = true) (hread : ∀ t ∈ ts, P.readableRec t = true ∧ t < P.types.size) (B : Bulk H) (hm : B.all ds ≤ m)
  (hlaw : ∀ x : IT l, WfIT l x → bulkIT l x ≤ m → ∃ y : IT (l ++ []), IT.inst (l ++ []) y = IT.inst l x ∧ sh y = some true)
  (hfn : ∀ ds : List (DataW H), ds.length = ts.length → sp.fn H (ds ++ []) = { results := [.lit (.bool true)], args := ds })
  (hval : ∀ (j : Nat) t v, fn.params[j]? = some t → args[j]? = some v → Value.okWide P W .any base t v)
  (hW : DataW.Whole enc P fn.params.toList sp.vars false W args.toList ds gs before) :
  Calls P f args W fun e W' => ∃ v, e = .returned v ∧ sp.post enc P fn false true false false W args v W' := by
 refine law_contract hF hT hvars hparams hrt hbool hplain hlaid hread B (fun dss h1 h2 h3 => ?_) hfn hval hW
 obtain ⟨x, e1, w1, b1⟩ := wf_items ts dss l h1 h2 hitems
 obtain ⟨y, hy, hs⟩ := hlaw x w1 (by omega)
 have hd := Sig.dec_inst { args := l, res := [.one .b] } hok y
 have hA : (Sig.instA { args := l, res := [.one .b] } y) = IT.inst l x := by
  show (IT.inst (l ++ []) y).take l.length = _
  rw [hy, List.take_of_length_le (by rw [IT.inst_length]; exact Nat.le_refl _)]
 have hB : (Sig.instB { args := l, res := [.one .b] } y) = [] := by
  show ((IT.inst (l ++ []) y).drop l.length).map boxCells = _
  rw [hy, List.drop_of_length_le (by rw [IT.inst_length]; exact Nat.le_refl _)]
  rfl
 rw [hA, hB] at hd
 rw [e1]
 unfold Sig.F
 rw [show ([] : List (List C)) = ([] : List (List E)).map cEs from rfl, hd]
 simp only [hs, hB]
 rfl
end Go.Ve
namespace Go.Ve
open Go.Vs
@[simp] theorem callO_some {ρ α : Type} (x : ρ) (k : ρ → Option α) : callO (some x) k = k x := rfl
@[simp] theorem callO_none {ρ α : Type} (k : ρ → Option α) : callO none k = none := rfl
@[simp] theorem sumO_inl {ρ σ α : Type} (x : ρ) (k : ρ → Option α) (k' : σ → Option α) : sumO (.inl x) k k' = k x := rfl
@[simp] theorem sumO_inr {ρ σ α : Type} (x : σ) (k : ρ → Option α) (k' : σ → Option α) : sumO (.inr x) k k' = k' x := rfl
theorem callO_id {ρ : Type} (o : Option ρ) : (callO o fun x => some x) = o := by cases o <;> rfl
theorem wrap_i64 {n : Int} (h0 : -9223372036854775808 ≤ n) (h1 : n ≤ 9223372036854775807) : IntKind.i64.wrap n = n := by
 simp only [IntKind.wrap, IntKind.bits, IntKind.signed]
 simp
 omega
theorem wrap_succ {i n : Nat} (h : i < n) (hn2 : n ≤ 4611686018427387904) : IntKind.i64.wrap ((i : Int) + 1) = ((i + 1 : Nat) : Int) := by
 rw [wrap_i64 (by omega) (by omega)]; omega
@[simp] theorem lenI_eq {α : Type} (l : List α) : lenI l = (l.length : Int) := rfl
theorem iterN_inv {σ ρ : Type} {f : σ → Option (σ ⊕ ρ)} (I : σ → Prop) (m : σ → Nat) (Q : ρ → Prop)
  (step : ∀ x, I x → match f x with | some (.inl y) => I y ∧ m y < m x | some (.inr r) => Q r | none => False) : ∀ (n : Nat) (x : σ), I x → m x < n → ∃ r, iterN f n x = some r ∧ Q r
 | 0, _, _, h => absurd h (Nat.not_lt_zero _)
 | n + 1, x, hI, h => by
  have hs := step x hI
  unfold iterN
  split <;> rename_i e
  ·rename_i y
   rw [e] at hs
   exact iterN_inv I m Q step n y hs.1 (by omega)
  ·rename_i r
   rw [e] at hs
   exact ⟨r, rfl, hs⟩
  ·rw [e] at hs
   exact hs.elim
theorem loopR_inv {σ ρ : Type} {f : σ → Option (σ ⊕ ρ)} (I : σ → Prop) (m : σ → Nat) (Q : ρ → Prop)
  (step : ∀ x, I x → match f x with | some (.inl y) => I y ∧ m y < m x | some (.inr r) => Q r | none => False) (x : σ) (hI : I x) (hm : m x < fuel) : ∃ r, loopR f x = some r ∧ Q r :=
 iterN_inv I m Q step fuel x hI hm
def foldO {α β ρ : Type} (g : β → α → Option (β ⊕ ρ)) (fin : β → Option ρ) : List α → β → Option ρ
 | [], b => fin b
 | a :: r, b => match g b a with
  | some (.inl b') => foldO g fin r b'
  | some (.inr x) => some x
  | none => none
theorem iterN_fold {σ ρ α β : Type} {f : σ → Option (σ ⊕ ρ)} {g : β → α → Option (β ⊕ ρ)} {fin : β → Option ρ} (mk : β → Nat → σ) (xs : List α)
  (step : ∀ b i (h : i < xs.length), f (mk b i) = match g b xs[i] with | some (.inl b') => some (.inl (mk b' (i + 1))) | some (.inr r) => some (.inr r) | none => none)
  (stop : ∀ b, f (mk b xs.length) = match fin b with | some r => some (.inr r) | none => none) :
  ∀ (k i : Nat) (b : β), i + k = xs.length → ∀ n, k < n → iterN f n (mk b i) = foldO g fin (xs.drop i) b
 | 0, i, b, hk, n, hn => by
  obtain ⟨n, rfl⟩ : ∃ m, n = m + 1 := ⟨n - 1, by omega⟩
  have hi : i = xs.length := by omega
  subst hi
  rw [List.drop_length]
  unfold iterN
  rw [stop b]
  unfold foldO
  cases fin b <;> rfl
 | k + 1, i, b, hk, n, hn => by
  obtain ⟨n, rfl⟩ : ∃ m, n = m + 1 := ⟨n - 1, by omega⟩
  have hi : i < xs.length := by omega
  rw [List.drop_eq_getElem_cons hi]
  unfold iterN
  rw [step b i hi]
  rw [foldO]
  cases e : g b xs[i] with
  | none => rfl
  | some u => cases u with
   | inl b' => exact iterN_fold mk xs step stop k (i + 1) b' (by omega) n (by omega)
   | inr r => rfl
theorem loopR_fold {σ ρ α β : Type} {f : σ → Option (σ ⊕ ρ)} (g : β → α → Option (β ⊕ ρ)) (fin : β → Option ρ) (mk : β → Nat → σ) (xs : List α)
  (step : ∀ b i (h : i < xs.length), f (mk b i) = match g b xs[i] with | some (.inl b') => some (.inl (mk b' (i + 1))) | some (.inr r) => some (.inr r) | none => none)
  (stop : ∀ b, f (mk b xs.length) = match fin b with | some r => some (.inr r) | none => none) (hl : xs.length < fuel) (b : β) :
  loopR f (mk b 0) = foldO g fin xs b := by
 have := iterN_fold mk xs step stop xs.length 0 b (by omega) fuel hl
 rw [List.drop_zero] at this
 exact this
theorem iterN_sim {σ τ ρ : Type} {f : σ → Option (σ ⊕ ρ)} {g : τ → Option (τ ⊕ ρ)} (R : σ → τ → Prop)
  (step : ∀ x y, R x y → match f x, g y with | some (.inl x'), some (.inl y') => R x' y' | some (.inr r), some (.inr r') => r = r' | none, none => True | _, _ => False) :
  ∀ (n : Nat) (x : σ) (y : τ), R x y → iterN f n x = iterN g n y
 | 0, _, _, _ => rfl
 | n + 1, x, y, h => by
  have hs := step x y h
  unfold iterN
  cases hf : f x with
  | none =>
   cases hg : g y with
   | none => rfl
   | some z => rw [hf, hg] at hs; exact hs.elim
  | some u =>
   cases hg : g y with
   | none => rw [hf, hg] at hs; cases u <;> exact hs.elim
   | some z =>
    rw [hf, hg] at hs
    cases u with
    | inl u => cases z with
     | inl z => exact iterN_sim R step n u z hs
     | inr z => exact hs.elim
    | inr u => cases z with
     | inl z => exact hs.elim
     | inr z => exact congrArg some hs
theorem loopR_sim {σ τ ρ : Type} {f : σ → Option (σ ⊕ ρ)} {g : τ → Option (τ ⊕ ρ)} (R : σ → τ → Prop)
  (step : ∀ x y, R x y → match f x, g y with | some (.inl x'), some (.inl y') => R x' y' | some (.inr r), some (.inr r') => r = r' | none, none => True | _, _ => False) (x : σ) (y : τ) (h : R x y) : loopR f x = loopR g y :=
 iterN_sim R step fuel x y h
theorem loopR_all {σ ρ : Type} {f : σ → Option (σ ⊕ ρ)} (mk : Nat → σ) (n : Nat) (P : Nat → Prop) (bad good : ρ)
  (yes : ∀ i, i < n → P i → f (mk i) = some (.inl (mk (i + 1)))) (no : ∀ i, i < n → ¬ P i → f (mk i) = some (.inr bad)) (stop : f (mk n) = some (.inr good)) (hn : n < fuel) :
  ((∀ i, i < n → P i) → loopR f (mk 0) = some good) ∧ ((¬ ∀ i, i < n → P i) → loopR f (mk 0) = some bad) := by
 have key : ∀ (k i : Nat), i + k = n → ∀ m, k < m → ((∀ j, i ≤ j → j < n → P j) → iterN f m (mk i) = some good) ∧ ((¬ ∀ j, i ≤ j → j < n → P j) → iterN f m (mk i) = some bad) := by
  intro k
  induction k with
  | zero =>
   intro i hi m hm
   obtain ⟨m, rfl⟩ : ∃ q, m = q + 1 := ⟨m - 1, by omega⟩
   have : i = n := by omega
   subst this
   refine ⟨fun _ => by unfold iterN; rw [stop], fun h => absurd (fun j h1 h2 => by omega) h⟩
  | succ k ih =>
   intro i hi m hm
   obtain ⟨m, rfl⟩ : ∃ q, m = q + 1 := ⟨m - 1, by omega⟩
   by_cases hp : P i
   ·obtain ⟨g1, g2⟩ := ih (i + 1) (by omega) m (by omega)
    unfold iterN
    rw [yes i (by omega) hp]
    refine ⟨fun h => g1 fun j h1 h2 => h j (by omega) h2, fun h => g2 fun h' => h fun j h1 h2 => ?_⟩
    rcases Nat.lt_or_ge i j with hj | hj
    ·exact h' j hj h2
    ·have : j = i := by omega
     subst this; exact hp
   ·unfold iterN
    rw [no i (by omega) hp]
    exact ⟨fun h => absurd (h i (Nat.le_refl _) (by omega)) hp, fun _ => rfl⟩
 obtain ⟨h1, h2⟩ := key n 0 (by omega) fuel hn
 exact ⟨fun h => h1 fun j _ hj => h j hj, fun h => h2 fun h' => h fun j hj => h' j (Nat.zero_le _) hj⟩
theorem foldO_total {α β ρ : Type} {g : β → α → Option (β ⊕ ρ)} {fin : β → Option ρ} (hg : ∀ b a, (g b a).isSome = true) (hf : ∀ b, (fin b).isSome = true) : ∀ (l : List α) (b : β), ∃ r, foldO g fin l b = some r
 | [], b => Option.isSome_iff_exists.1 (hf b)
 | a :: l, b => by
  obtain ⟨x, e⟩ := Option.isSome_iff_exists.1 (hg b a)
  rw [foldO, e]
  cases x with
  | inl b' => exact foldO_total hg hf l b'
  | inr r => exact ⟨r, rfl⟩
theorem guard_nlt {α : Type} {xs : List α} {i : Int} : (decide (0 ≤ i ∧ i < lenI xs) && nlt i.toNat xs.length) = decide (0 ≤ i ∧ i < lenI xs) := by
 by_cases h : 0 ≤ i ∧ i < lenI xs
 ·have : nlt i.toNat xs.length = true := (nlt_iff _ _).2 (by have := lenI_eq xs; omega)
  rw [this, Bool.and_true]
 ·rw [decide_eq_false h]; rfl
theorem rangeIn {α β : Type} {xs : List α} {k : Nat} (h : k < xs.length) {A B C : Option β} :
  (if decide ((k : Int) < lenI xs) = true then (if decide (0 ≤ (k : Int) ∧ (k : Int) < lenI xs) = true then A else B) else C) = A := by
 have h2 : (k : Int) < lenI xs := by rw [lenI_eq]; omega
 rw [if_pos (decide_eq_true h2), if_pos (decide_eq_true ⟨by omega, h2⟩)]
theorem rangeIn1 {α β : Type} {xs : List α} {k : Nat} (h : k < xs.length) {A C : Option β} : (if decide ((k : Int) < lenI xs) = true then A else C) = A := by
 have h2 : (k : Int) < lenI xs := by rw [lenI_eq]; omega
 rw [if_pos (decide_eq_true h2)]
theorem rangeOut {α β : Type} {xs : List α} {A C : Option β} : (if decide ((xs.length : Int) < lenI xs) = true then A else C) = C := by
 have h2 : ¬ (xs.length : Int) < lenI xs := by rw [lenI_eq]; omega
 rw [decide_eq_false h2]; rfl
theorem getD_at {α : Type} {xs : List α} {k : Nat} {d : α} (h : k < xs.length) : xs.getD ((k : Int)).toNat d = xs[k] := by
 rw [Int.toNat_natCast, List.getD_eq_getElem?_getD, List.getElem?_eq_getElem h]; rfl
def Ok {α : Type} (o : Option α) (Q : α → Prop) : Prop := ∃ x, o = some x ∧ Q x
namespace Ok
variable {α β : Type} {Q : α → Prop}
theorem ret {x : α} (h : Q x) : Ok (some x) Q := ⟨x, rfl, h⟩
theorem mono {o : Option α} {R : α → Prop} (h : Ok o R) (hi : ∀ x, R x → Q x) : Ok o Q := by obtain ⟨x, e, hx⟩ := h; exact ⟨x, e, hi x hx⟩
theorem of_eq {o : Option α} {x : α} (e : o = some x) (h : Q x) : Ok o Q := ⟨x, e, h⟩
theorem call {ρ : Type} {o : Option ρ} {k : ρ → Option α} {R : ρ → Prop} (h : Ok o R) (hk : ∀ x, R x → Ok (k x) Q) : Ok (callO o k) Q := by
 obtain ⟨x, rfl, hx⟩ := h
 exact hk x hx
theorem ite {c : Prop} [Decidable c] {a b : Option α} (ht : c → Ok a Q) (he : ¬ c → Ok b Q) : Ok (if c then a else b) Q := by
 split
 ·exact ht ‹_›
 ·exact he ‹_›
theorem pos {c : Prop} [Decidable c] {a b : Option α} (h : c) (ht : Ok a Q) : Ok (if c then a else b) Q := by rw [if_pos h]; exact ht
theorem neg {c : Prop} [Decidable c] {a b : Option α} (h : ¬ c) (he : Ok b Q) : Ok (if c then a else b) Q := by rw [if_neg h]; exact he
theorem grd {c : Prop} [Decidable c] {a b : Option α} (h : c) (ht : Ok a Q) : Ok (if decide c = true then a else b) Q := by rw [if_pos (decide_eq_true h)]; exact ht
theorem dec {c : Prop} [Decidable c] {a b : Option α} (ht : c → Ok a Q) (he : ¬ c → Ok b Q) : Ok (if decide c = true then a else b) Q :=
 ite (fun h => ht (of_decide_eq_true h)) (fun h => he (fun hc => h (decide_eq_true hc)))
theorem loop {σ ρ : Type} {f : σ → Option (σ ⊕ ρ)} {R : ρ → Prop} (I : σ → Prop) (m : σ → Nat) {x : σ} (hI : I x) (hm : m x < fuel)
  (step : ∀ x, I x → Ok (f x) (fun y => match y with | .inl y => I y ∧ m y < m x | .inr r => R r)) : Ok (loopR f x) R := by
 refine loopR_inv I m R (fun x hx => ?_) x hI hm
 obtain ⟨y, e, hy⟩ := step x hx
 rw [e]
 cases y <;> exact hy
theorem app {γ : Type} {o : Option (List γ)} {A B : Option α} {k : Prop} (hs : ∀ xs, o = some xs → Ok A Q) (hn : o = none → Ok B Q) [Decidable k] (hk : k ↔ o.isSome = true) : Ok (if k then A else B) Q := by
 cases o with
 | none => rw [if_neg (by simp [hk])]; exact hn rfl
 | some xs => rw [if_pos (by simp [hk])]; exact hs xs rfl
end Ok
end Go.Ve
namespace Go.Ve
open Go.Vs
theorem bulk_append {H : Type} (B : Bulk H) : ∀ (a b : List (DataW H)), B.all a ≤ B.all (a ++ b)
 | [], b => by rw [B.nil]; exact Nat.zero_le _
 | x :: a, b => by rw [List.cons_append, B.cons, B.cons]; exact Nat.add_le_add_left (bulk_append B a b) _
theorem bulkT_pos : ∀ (t : Ty) (x : t.T), 1 ≤ bulkT t x
 | .int _, _ => Nat.le_refl _
 | .bool, _ => Nat.le_refl _
 | .str, s => Nat.le_add_left _ _
 | .sl r, o => by
  cases o with
  | none => exact Nat.le_refl _
  | some xs => exact Nat.le_add_left _ _
 | .pair h t, x => Nat.le_trans (bulkT_pos h x.1) (Nat.le_add_right _ _)
 | .ent _ h t, x => Nat.le_trans (bulkT_pos h x.1) (Nat.le_add_right _ _)
 | .set k, x => bulkT_pos k x
theorem sum_len {α : Type} {f : α → Nat} (h : ∀ x, 1 ≤ f x) : ∀ l : List α, l.length ≤ (l.map f).sum
 | [] => Nat.le_refl _
 | a :: l => by have := sum_len h l; have := h a; simp only [List.map_cons, List.sum_cons, List.length_cons]; omega
theorem bulk_sl {r : Ty} (o : Option (List r.T)) : (o.getD []).length ≤ bulkT (.sl r) o := by
 cases o with
 | none => exact Nat.zero_le _
 | some xs => exact Nat.le_trans (sum_len (bulkT_pos r) xs) (Nat.le_add_right _ _)
theorem bulk_str (s : List UInt8) : s.length ≤ bulkT .str s := Nat.le_add_right _ _
theorem bulk_hd {i : It} {r : List It} {x : IT (i :: r)} {m : Nat} (h : bulkIT (i :: r) x ≤ m) : bulkI i (IT.hd i r x) ≤ m := Nat.le_trans (Nat.le_add_right _ _) h
theorem bulk_tl {i : It} {r : List It} {x : IT (i :: r)} {m : Nat} (h : bulkIT (i :: r) x ≤ m) : bulkIT r (IT.tl IT.dflt i r x) ≤ m := Nat.le_trans (Nat.le_add_left _ _) h
theorem len_sl {r : Ty} {o : Option (List r.T)} {m : Nat} (h : bulkT (.sl r) o ≤ m) : (o.getD []).length ≤ m := Nat.le_trans (bulk_sl o) h
end Go.Ve
namespace Go.Vs
noncomputable section
def xkey : Key → Key → Bool
 | .inb a, .inb b => Nat.beq a b
 | .loc a, .loc b => Nat.beq a b
 | .esc a i, .esc b j => match Nat.beq a b with | true => Nat.beq i j | false => false
 | _, _ => false
theorem xkey_iff {a b : Key} : xkey a b = true ↔ a = b := by
 cases a <;> cases b <;> simp [xkey]
 rename_i a i b j
 cases h : Nat.beq a b
 ·simp only [Bool.false_eq_true, false_iff]
  rintro ⟨rfl, _⟩
  rw [Nat.beq_refl] at h; cases h
 ·have := Nat.eq_of_beq_eq_true h
  simp [this]
def xres : Res → Res → Bool
 | .tmp a, .tmp b => Nat.beq a b
 | .box a, .box b => xkey a b
 | .arg a, .arg b => Nat.beq a b
 | _, _ => false
theorem xres_iff {a b : Res} : xres a b = true ↔ a = b := by
 cases a <;> cases b <;> simp [xres, xkey_iff]
theorem xkey_self (a : Key) : xkey a a = true := xkey_iff.2 rfl
theorem xres_self (a : Res) : xres a a = true := xres_iff.2 rfl
theorem xres_ne {a b : Res} (h : xres a b = false) : a ≠ b := by rintro rfl; rw [xres_self] at h; cases h
abbrev XSt := List (Res × RV)
def lkX (r : Res) (l : XSt) : RV := List.rec {} (fun p _ ih => match p with | (q, x) => match xres r q with | true => x | false => ih) l
theorem lkX_nil (r : Res) : lkX r [] = {} := rfl
theorem lkX_cons (r q : Res) (x : RV) (l : XSt) : lkX r ((q, x) :: l) = match xres r q with | true => x | false => lkX r l := rfl
def cX (l : XSt) : St := fun r => lkX r l
theorem cX_cons (r : Res) (x : RV) (l : XSt) : cX ((r, x) :: l) = (cX l).set r x := by
 funext q
 show (match xres q r with | true => x | false => lkX q l) = if q = r then x else lkX q l
 cases h : xres q r
 ·rw [if_neg (xres_ne h)]
 ·rw [if_pos (xres_iff.1 h)]
section
variable {β : Type}
def frN (n : Nat) (k : Nat → β) : β := Nat.rec (k 0) (fun m _ => k (m + 1)) n
theorem frN_eq (n : Nat) (k : Nat → β) : frN n k = k n := by cases n <;> rfl
def frI (n : Int) (k : Int → β) : β :=
 match n with
 | .ofNat m => frN m fun m => k (.ofNat m)
 | .negSucc m => frN m fun m => k (.negSucc m)
theorem frI_eq (n : Int) (k : Int → β) : frI n k = k n := by
 cases n
 ·exact frN_eq _ (fun m => k (.ofNat m))
 ·exact frN_eq _ (fun m => k (.negSucc m))
def frB (b : Bool) (k : Bool → β) : β := match b with | true => k true | false => k false
theorem frB_eq (b : Bool) (k : Bool → β) : frB b k = k b := by cases b <;> rfl
def frL {α : Type} (l : List α) : (List α → β) → β := List.rec (fun k => k []) (fun a _ ih k => ih fun l => k (a :: l)) l
theorem frL_eq {α : Type} : ∀ (l : List α) (k : List α → β), frL l k = k l
 | [], _ => rfl
 | a :: l, k => frL_eq l fun l => k (a :: l)
def frD (d : D) (k : D → β) : β :=
 match d with
 | .int t n => frI n fun n => k (.int t n)
 | .bool b => frB b fun b => k (.bool b)
 | .str s => frL s fun s => k (.str s)
 | .nil => k .nil
 | .sl e xs => k (.sl e xs)
 | .nul n => k (.nul n)
theorem frD_eq (d : D) (k : D → β) : frD d k = k d := by
 cases d <;> simp [frD, frI_eq, frB_eq, frL_eq]
def frDs (l : List D) : (List D → β) → β := List.rec (fun k => k []) (fun d _ ih k => frD d fun d => ih fun l => k (d :: l)) l
theorem frDs_eq : ∀ (l : List D) (k : List D → β), frDs l k = k l
 | [], _ => rfl
 | a :: l, k => (frD_eq a fun d => frDs l fun l => k (d :: l)).trans (frDs_eq l fun l => k (a :: l))
def frRows (l : List (List D)) : (List (List D) → β) → β := List.rec (fun k => k []) (fun d _ ih k => frDs d fun d => ih fun l => k (d :: l)) l
theorem frRows_eq : ∀ (l : List (List D)) (k : List (List D) → β), frRows l k = k l
 | [], _ => rfl
 | a :: l, k => (frDs_eq a fun d => frRows l fun l => k (d :: l)).trans (frRows_eq l fun l => k (a :: l))
def frC (c : C) (k : C → β) : β :=
 match c with
 | .d x => match x with
  | .int t n => frI n fun n => k (.d (.int t n))
  | .bool b => frB b fun b => k (.d (.bool b))
  | .str s => k (.d (.str s))
  | .nil => k (.d .nil)
  | .sl e xs => k (.d (.sl e xs))
  | .nul n => k (.d (.nul n))
 | .own e xs => k (.own e xs)
 | .bor r j hv cv e m xs => frN hv fun hv => frN cv fun cv => frN m fun m => k (.bor r j hv cv e m xs)
 | .ea r j hv e i off => frN hv fun hv => frN i fun i => frN off fun off => k (.ea r j hv e i off)
 | .da xs => k (.da xs)
 | .ptr key off => frN off fun off => k (.ptr key off)
 | .clo f caps => k (.clo f caps)
 | .dead => k .dead
theorem frC_eq (c : C) (k : C → β) : frC c k = k c := by
 cases c <;> simp only [frC, frN_eq]
 rename_i x
 cases x <;> simp [frI_eq, frB_eq]
def frE (c : C) (k : C → β) : β :=
 match c with
 | .d x => frD x fun x => match x with
  | .sl e xs => frRows xs fun xs => k (.d (.sl e xs))
  | x => k (.d x)
 | .own e xs => frRows xs fun xs => k (.own e xs)
 | .bor r j hv cv e m xs => frN hv fun hv => frN cv fun cv => frN m fun m => frL xs fun xs => k (.bor r j hv cv e m xs)
 | c => frC c k
theorem frE_eq (c : C) (k : C → β) : frE c k = k c := by
 cases c <;> simp only [frE, frN_eq, frD_eq, frRows_eq, frL_eq, frC_eq]
 split <;> simp [frRows_eq]
def frEs (l : List C) : (List C → β) → β := List.rec (fun k => k []) (fun d _ ih k => frE d fun d => ih fun l => k (d :: l)) l
theorem frEs_eq : ∀ (l : List C) (k : List C → β), frEs l k = k l
 | [], _ => rfl
 | a :: l, k => (frE_eq a fun d => frEs l fun l => k (d :: l)).trans (frEs_eq l fun l => k (a :: l))
def frCs (l : List C) : (List C → β) → β := List.rec (fun k => k []) (fun d _ ih k => frC d fun d => ih fun l => k (d :: l)) l
theorem frCs_eq : ∀ (l : List C) (k : List C → β), frCs l k = k l
 | [], _ => rfl
 | a :: l, k => (frC_eq a fun d => frCs l fun l => k (d :: l)).trans (frCs_eq l fun l => k (a :: l))
def frT (fr : List C → (List C → β) → β) : List (Bool × List C) → (List (Bool × List C) → β) → β
 | [], k => k []
 | p :: l, k => match p with
  | (b, cs) => frB b fun b => fr cs fun cs => frT fr l fun l => k ((b, cs) :: l)
theorem frT_eq {fr : List C → (List C → β) → β} (h : ∀ l k, fr l k = k l) : ∀ (l : List (Bool × List C)) (k : List (Bool × List C) → β), frT fr l k = k l
 | [], _ => rfl
 | (b, cs) :: l, k => by rw [frT]; simp only [frB_eq, h, frT_eq h l]
def frV (fr : List C → (List C → β) → β) (fr1 : C → (C → β) → β) (v : SV) (k : SV → β) : β :=
 match v with
 | .one c => fr1 c fun c => k (.one c)
 | .agg cs => fr cs fun cs => k (.agg cs)
 | .tup vs => frT fr vs fun vs => k (.tup vs)
 | .undef => k .undef
theorem frV_eq {fr : List C → (List C → β) → β} {fr1 : C → (C → β) → β} (h : ∀ l k, fr l k = k l) (h1 : ∀ c k, fr1 c k = k c) (v : SV) (k : SV → β) : frV fr fr1 v k = k v := by
 cases v <;> simp [frV, h, h1, frT_eq h]
def frRV (x : RV) (k : RV → β) : β :=
 match x with
 | ⟨hv, cv, v⟩ => frN hv fun hv => frN cv fun cv => frV frEs frE v fun v => k ⟨hv, cv, v⟩
theorem frRV_eq (x : RV) (k : RV → β) : frRV x k = k x := by
 cases x
 simp only [frRV, frN_eq, frV_eq frEs_eq frE_eq]
def frSt : XSt → (XSt → β) → β
 | [], k => k []
 | p :: l, k => match p with
  | (r, ⟨hv, cv, v⟩) => frV frCs frC v fun v => frSt l fun l => k ((r, ⟨hv, cv, v⟩) :: l)
theorem frSt_eq : ∀ (l : XSt) (k : XSt → β), frSt l k = k l
 | [], _ => rfl
 | (r, ⟨hv, cv, v⟩) :: l, k => by
  rw [frSt]
  simp only [frV_eq frCs_eq frC_eq, frSt_eq l]
end
def Prog.bothX {α : Type} (p : Prog α) : XSt → Option (α × XSt × List Res × List Res) :=
 Prog.rec (motive := fun _ => XSt → Option (α × XSt × List Res × List Res)) (fun a s => some (a, s, [], [])) (fun _ => none)
  (fun r _ ih s => match ih (lkX r s) s with
   | some (a, s', f, g) => some (a, s', r :: f, g)
   | none => none)
  (fun r x _ ih s => frRV x fun x => match ih ((r, x) :: s) with
   | some (a, s', f, g) => some (a, s', f, r :: g)
   | none => none) p
theorem bothX_get {α : Type} (r : Res) (k : RV → Prog α) (s : XSt) : (Prog.get r k).bothX s = match (k (lkX r s)).bothX s with
  | some (a, s', f, g) => some (a, s', r :: f, g)
  | none => none := rfl
theorem bothX_put {α : Type} (r : Res) (x : RV) (k : Prog α) (s : XSt) : (Prog.put r x k).bothX s = frRV x fun x => match k.bothX ((r, x) :: s) with
  | some (a, s', f, g) => some (a, s', f, r :: g)
  | none => none := rfl
theorem bothX_spec {α : Type} (p : Prog α) : ∀ (s s' : XSt) (a : α) (f g : List Res), p.bothX s = some (a, s', f, g) → p.both (cX s) = some (a, cX s', f, g) := by
 induction p with
 | ret a => intro s s' b f g h; replace h : some (a, s, [], []) = some (b, s', f, g) := h; simp only [Option.some.injEq, Prod.mk.injEq] at h; obtain ⟨rfl, rfl, rfl, rfl⟩ := h; rfl
 | fail => intro s s' b f g h; cases h
 | get r k ih =>
  intro s s' b f g h
  rw [bothX_get] at h
  cases hk : (k (lkX r s)).bothX s with
  | none => rw [hk] at h; cases h
  | some x =>
   obtain ⟨a1, s1, f1, g1⟩ := x
   rw [hk] at h
   simp only [Option.some.injEq, Prod.mk.injEq] at h
   obtain ⟨rfl, rfl, rfl, rfl⟩ := h
   have := ih (lkX r s) s _ _ _ _ hk
   simp only [Prog.both]
   show (match (k (lkX r s)).both (cX s) with | some (a, s', f, g) => some (a, s', r :: f, g) | none => none) = _
   rw [this]
 | put r x k ih =>
  intro s s' b f g h
  rw [bothX_put, frRV_eq] at h
  cases hk : k.bothX ((r, x) :: s) with
  | none => rw [hk] at h; cases h
  | some y =>
   obtain ⟨a1, s1, f1, g1⟩ := y
   rw [hk] at h
   simp only [Option.some.injEq, Prod.mk.injEq] at h
   obtain ⟨rfl, rfl, rfl, rfl⟩ := h
   have := ih _ _ _ _ _ hk
   simp only [Prog.both]
   rw [← cX_cons, this]
theorem bothX_exec {α : Type} {p : Prog α} {s s' : XSt} {a : α} {f g : List Res} (h : p.bothX s = some (a, s', f, g)) : p.exec (cX s) = some (a, cX s') := by
 have := bothX_spec p _ _ _ _ _ h
 rw [both_spec] at this
 cases he : p.exec (cX s) with
 | none => rw [he] at this; cases this
 | some x =>
  rw [he] at this
  simp only [Option.map_some, Option.some.injEq, Prod.mk.injEq] at this
  obtain ⟨h1, h2, _⟩ := this
  rw [← h1, ← h2]
def runX (cfg : Cfg) (ops : Array Oper) : List Oper → XSt → Option (XSt × List (List Res × List Res))
 | [], s => some (s, [])
 | o :: r, s => match (astep cfg ops o).bothX s with
  | some (_, s', f, g) => match runX cfg ops r s' with
   | some (s'', l) => some (s'', (f, g) :: l)
   | none => none
  | none => none
theorem runX_spec (cfg : Cfg) (ops : Array Oper) : ∀ (l : List Oper) (s s' : XSt) (fps : List (List Res × List Res)), runX cfg ops l s = some (s', fps) → runBoth cfg ops l (cX s) = some (cX s', fps) := by
 intro l
 induction l with
 | nil => intro s s' fps h; simp only [runX, Option.some.injEq, Prod.mk.injEq] at h; obtain ⟨rfl, rfl⟩ := h; rfl
 | cons o l ih =>
  intro s s' fps h
  simp only [runX] at h
  cases he : (astep cfg ops o).bothX s with
  | none => rw [he] at h; cases h
  | some x =>
   obtain ⟨u, s1, f, g⟩ := x
   rw [he] at h
   simp only at h
   cases hr : runX cfg ops l s1 with
   | none => rw [hr] at h; cases h
   | some y =>
    obtain ⟨s2, fs⟩ := y
    rw [hr] at h
    simp only [Option.some.injEq, Prod.mk.injEq] at h
    obtain ⟨rfl, rfl⟩ := h
    simp only [runBoth, bothX_spec _ _ _ _ _ _ he, ih _ _ _ hr]
def maskOf : List Nat → Nat
 | [] => 0
 | t :: l => maskOf l ||| 1 <<< t
theorem maskOf_spec (t : Nat) : ∀ l : List Nat, (maskOf l).testBit t = true ↔ t ∈ l
 | [] => by simp [maskOf]
 | u :: l => by
  have ih := maskOf_spec t l
  simp only [maskOf, Nat.testBit_or, Bool.or_eq_true, ih, Nat.one_shiftLeft, Nat.testBit_two_pow, decide_eq_true_eq, List.mem_cons]
  constructor
  ·rintro (h | rfl)
   ·exact .inr h
   ·exact .inl rfl
  ·rintro (rfl | h)
   ·exact .inr rfl
   ·exact .inl h
def finV (s : St) (bk : List Key) (r : Res) (v : SV) : SV :=
 match r with
 | .box _ => match v with | .agg cs => .agg (stls s bk cs) | _ => .undef
 | _ => stlSV s bk v
def finKeep (km : Nat) (bk : List Key) (n : Nat) : Res → Bool
 | .tmp t => km.testBit t
 | .box k => bk.any (xkey k)
 | .arg i => Nat.blt i n
def finE (s : St) (km : Nat) (bk : List Key) (n : Nat) (r : Res) (x : RV) : RV :=
 match finKeep km bk n r with
 | true => { v := finV s bk r x.v }
 | false => {}
def seenX (m : Nat) (l : List Key) : Res → Bool
 | .tmp t => m.testBit t
 | .box k => l.any (xkey k)
 | .arg _ => false
def addT (m : Nat) : Res → Nat
 | .tmp t => m ||| 1 <<< t
 | _ => m
def addK (l : List Key) : Res → List Key
 | .box k => k :: l
 | _ => l
def finGo (s : St) (km : Nat) (bk : List Key) (n : Nat) : Nat → List Key → XSt → XSt
 | _, _, [] => []
 | m, l, p :: q => match p with
  | (r, x) => match seenX m l r with
   | true => finGo s km bk n m l q
   | false => match finKeep km bk n r with
    | true => (r, { v := finV s bk r x.v }) :: finGo s km bk n (addT m r) (addK l r) q
    | false => finGo s km bk n (addT m r) (addK l r) q
theorem seen_tmp (m t u : Nat) (l : List Key) : seenX (m ||| 1 <<< t) l (.tmp u) = (decide (t = u) || seenX m l (.tmp u)) := by
 simp only [seenX, Nat.testBit_or, Nat.one_shiftLeft, Nat.testBit_two_pow]
 rw [Bool.or_comm]
theorem finGo_lk (s : St) (km : Nat) (bk : List Key) (n : Nat) (r : Res) : ∀ (q : XSt) (m : Nat) (l : List Key), seenX m l r = false → lkX r (finGo s km bk n m l q) = finE s km bk n r (lkX r q)
 | [], m, l, _ => by
  simp only [finGo, lkX_nil, finE]
  split
  ·cases r <;> rfl
  ·rfl
 | (r', x) :: q, m, l, h => by
  simp only [finGo]
  cases hs : seenX m l r' with
  | true =>
   have hne : xres r r' = false := by
    cases hx : xres r r'
    ·rfl
    ·rw [xres_iff.1 hx, hs] at h; cases h
   simp only
   rw [finGo_lk s km bk n r q m l h]
   show _ = finE s km bk n r (match xres r r' with | true => x | false => lkX r q)
   rw [hne]
  | false =>
   simp only
   cases hx : xres r r' with
   | true =>
    have e := xres_iff.1 hx
    subst e
    have e2 : lkX r ((r, x) :: q) = x := by simp [lkX_cons, xres_self]
    rw [e2]
    cases hk : finKeep km bk n r with
    | true => simp [lkX_cons, xres_self, finE, hk]
    | false =>
     have key : ∀ (q : XSt) (m' : Nat) (l' : List Key), lkX r (finGo s km bk n m' l' q) = {} := by
      intro q
      induction q with
      | nil => intro m' l'; rfl
      | cons p q ih =>
       intro m' l'
       obtain ⟨r2, x2⟩ := p
       simp only [finGo]
       cases seenX m' l' r2 with
       | true => exact ih ..
       | false =>
        simp only
        cases hk2 : finKeep km bk n r2 with
        | true =>
         have hne : xres r r2 = false := by
          cases hx2 : xres r r2
          ·rfl
          ·rw [xres_iff.1 hx2, hk2] at hk; cases hk
         simp only [lkX_cons, hne]
         exact ih ..
        | false => exact ih ..
     simp only [finE, hk]
     exact key ..
   | false =>
    have e2 : lkX r ((r', x) :: q) = lkX r q := by simp [lkX_cons, hx]
    rw [e2]
    have key : lkX r (finGo s km bk n (addT m r') (addK l r') q) = finE s km bk n r (lkX r q) := by
     refine finGo_lk s km bk n r q _ _ ?_
     cases r' with
     | arg i => exact h
     | box k =>
      cases r with
      | box k' =>
       have h1 : xkey k' k = false := hx
       have h2 : (l.any (xkey k')) = false := h
       show ((k :: l).any (xkey k')) = false
       rw [List.any_cons, h1, h2]; rfl
      | tmp t => exact h
      | arg i => rfl
     | tmp t =>
      cases r with
      | tmp u =>
       show seenX (m ||| 1 <<< t) l (.tmp u) = false
       rw [seen_tmp, h]
       have h1 : Nat.beq u t = false := hx
       have : t ≠ u := by rintro rfl; rw [Nat.beq_refl] at h1; cases h1
       simp [this]
      | box k => exact h
      | arg i => rfl
    cases hk : finKeep km bk n r' with
    | true =>
     show lkX r ((r', _) :: _) = _
     rw [lkX_cons]
     simp only [hx]
     exact key
    | false => exact key
def finX (km : Nat) (bk : List Key) (n : Nat) (s : XSt) : XSt := finGo (cX s) km bk n 0 [] s
theorem any_xkey (k : Key) (bk : List Key) : bk.any (xkey k) = true ↔ k ∈ bk := by
 simp only [List.any_eq_true, xkey_iff]
 exact ⟨fun ⟨x, h, e⟩ => e ▸ h, fun h => ⟨k, h, rfl⟩⟩
theorem finX_spec (s : XSt) (keys : List Nat) (bk : List Key) (n : Nat) : (fin (cX s) keys bk n).st = cX (finX (maskOf keys) bk n s) := by
 funext r
 have h0 : seenX 0 [] r = false := by cases r <;> simp [seenX]
 have hr : cX (finX (maskOf keys) bk n s) r = finE (cX s) (maskOf keys) bk n r (cX s r) := finGo_lk (cX s) (maskOf keys) bk n r s 0 [] h0
 rw [hr]
 have hz := ps_hv (fin (cX s) keys bk n) r
 have ext : ∀ (a b : RV), a.hv = b.hv → a.cv = b.cv → a.v = b.v → a = b := by intro a b h1 h2 h3; cases a; cases b; simp_all
 have z1 : (finE (cX s) (maskOf keys) bk n r (cX s r)).hv = 0 ∧ (finE (cX s) (maskOf keys) bk n r (cX s r)).cv = 0 := by
  unfold finE; split <;> exact ⟨rfl, rfl⟩
 refine ext _ _ (by rw [hz.1, z1.1]) (by rw [hz.2, z1.2]) ?_
 cases r with
 | tmp t =>
  rw [fin_tmp]
  have := maskOf_spec t keys
  by_cases h : t ∈ keys
  ·rw [if_pos h]
   simp only [finE, finKeep, this.2 h]; rfl
  ·rw [if_neg h]
   have h2 : (maskOf keys).testBit t = false := by
    cases hb : (maskOf keys).testBit t
    ·rfl
    ·exact absurd (this.1 hb) h
   simp only [finE, finKeep, h2]
 | box k =>
  rw [fin_box]
  have := any_xkey k bk
  by_cases h : k ∈ bk
  ·rw [if_pos h]
   simp only [finE, finKeep, this.2 h]; rfl
  ·rw [if_neg h]
   have h2 : bk.any (xkey k) = false := by
    cases hb : bk.any (xkey k)
    ·rfl
    ·exact absurd (this.1 hb) h
   simp only [finE, finKeep, h2]
 | arg i =>
  rw [fin_arg]
  by_cases h : i < n
  ·rw [if_pos h]
   have : Nat.blt i n = true := by simpa using h
   simp only [finE, finKeep, this]; rfl
  ·rw [if_neg h]
   have : Nat.blt i n = false := by
    cases hb : Nat.blt i n
    ·rfl
    ·exact absurd (by simpa using hb) h
   simp only [finE, finKeep, this]
theorem least_of {R : Nat → Prop} (h : ∃ n, R n) : ∃ n, R n ∧ ∀ m, R m → n ≤ m := by
 obtain ⟨n, hn⟩ := h
 induction n using Nat.strongRecOn with
 | _ n ih =>
  by_cases hm : ∃ m, m < n ∧ R m
  ·obtain ⟨m, h1, h2⟩ := hm; exact ih m h1 h2
  ·exact ⟨n, hn, fun m h => Nat.le_of_not_lt fun h2 => hm ⟨m, h2, h⟩⟩
structure XPS where
 st : XSt
 n : Nat
def Xrel (p : PS) (x : XPS) : Prop := p.st = cX x.st ∧ p.args.length = x.n
def condX (c : Operand) (x : XPS) : Option Bool :=
 match c with
 | .tmp t => match (lkX (.tmp t) x.st).v with | .one (.d (.bool b)) => some b | _ => none
 | .const (.bool b) => some b
 | _ => none
theorem condX_spec {c : Operand} {p : PS} {x : XPS} {b : Bool} (h : Xrel p x) (hc : condX c x = some b) : condVal c p = some b := by
 unfold condX at hc
 split at hc
 ·rename_i t
  split at hc
  ·rename_i b' hb
   have h1 : (p.st (.tmp t)).v = .one (.d (.bool b')) := by rw [h.1]; exact hb
   have h2 : ((lk t p.slots).getD .undef) = .one (.d (.bool b')) := h1
   cases hl : lk t p.slots with
   | none => rw [hl] at h2; cases h2
   | some v =>
    rw [hl] at h2
    simp only [Option.getD_some] at h2
    subst h2
    simp only [condVal, hl]
    exact hc
  ·cases hc
 ·exact hc
 ·cases hc
def finP (F : VF) (s : XSt) (n : Nat) (k : XPS → Option (Ex × XPS)) : Option (Ex × XPS) := frSt (finX (maskOf F.keys) F.bkeys n s) fun st => k { st, n }
theorem finP_eq (F : VF) (s : XSt) (n : Nat) (k : XPS → Option (Ex × XPS)) : finP F s n k = k { st := finX (maskOf F.keys) F.bkeys n s, n } := frSt_eq ..
def mkOps : List Oper → List Nat
 | [] => []
 | o :: r => match o.op, o.dst with
  | .alloc _, some d => d :: mkOps r
  | .box _ _, some d => d :: mkOps r
  | .call _, some d => d :: mkOps r
  | _, _ => mkOps r
def mkOf : Code → List Nat
 | .region _ ops _ => mkOps ops.toList
 | .seq a b => mkOf a ++ mkOf b
 | .cond _ a b => mkOf a ++ mkOf b
 | .block _ b => mkOf b
 | .loop b => mkOf b
 | .scope b => mkOf b
 | _ => []
def goneK (m : Nat) : Key → Bool
 | .inb _ => false
 | .loc t => m.testBit t
 | .esc t _ => m.testBit t
def liveK (m : Nat) (bk : List Key) : List Key := bk.filter fun k => !goneK m k
def finPL (F : VF) (b : Code) (s : XSt) (n : Nat) (k : XPS → Option (Ex × XPS)) : Option (Ex × XPS) := frSt (finX (maskOf F.keys) (liveK (maskOf (mkOf b)) F.bkeys) n s) fun st => k { st, n }
theorem finPL_eq (F : VF) (b : Code) (s : XSt) (n : Nat) (k : XPS → Option (Ex × XPS)) : finPL F b s n k = k { st := finX (maskOf F.keys) (liveK (maskOf (mkOf b)) F.bkeys) n s, n } := frSt_eq ..
def exStep (F : VF) (rec : Code → XPS → Option (Ex × XPS)) (c : Code) (x : XPS) : Option (Ex × XPS) :=
 match c with
 | .skip => some (.normal, x)
 | .region _ ops draw => match runX F.cfg ops ops.toList x.st with
  | some (s, fps) => match draw with
   | true => match drawOk ops fps with
    | true => finP F s x.n fun y => some (.normal, y)
    | false => none
   | false => finP F s x.n fun y => some (.normal, y)
  | none => none
 | .seq a b => match rec a x with
  | some (.normal, y) => rec b y
  | r => r
 | .cond c a b => match condX c x with
  | some true => rec a x
  | some false => rec b x
  | none => none
 | .block id b => match rec b x with
  | some (.exit i, y) => match Nat.beq i id with
   | true => some (.normal, y)
   | false => some (.exit i, y)
  | r => r
 | .loop b => finPL F b x.st x.n fun x' => match rec b x' with
  | some (.normal, y) => rec (.loop b) y
  | r => r
 | .scope b => rec b x
 | .exit id => some (.exit id, x)
 | .ret => some (.ret, x)
 | _ => none
def exC (F : VF) (m : Nat) : Code → XPS → Option (Ex × XPS) := Nat.rec (fun _ _ => none) (fun _ ih => exStep F ih) m
theorem exC_zero (F : VF) (c : Code) (x : XPS) : exC F 0 c x = none := rfl
theorem exC_succ (F : VF) (m : Nat) (c : Code) (x : XPS) : exC F (m + 1) c x = exStep F (exC F m) c x := rfl
theorem Xrel.fin {p : PS} {x : XPS} (hl : p.args.length = x.n) (s : XSt) (keys : List Nat) (bk : List Key) : Xrel (fin (cX s) keys bk p.args.length) { st := finX (maskOf keys) bk x.n s, n := x.n } := by
 rw [hl]
 exact ⟨finX_spec .., finArgs_length ..⟩
theorem Xrel.forget {p : PS} {x : XPS} (h : Xrel p x) (keys : List Nat) (bk : List Key) : Xrel (forget keys bk p) { st := finX (maskOf keys) bk x.n x.st, n := x.n } := by
 have := Xrel.fin h.2 x.st keys bk
 rw [← h.1] at this
 exact this
theorem exC_sound (F : VF) : ∀ (c : Code) (m : Nat) (x y : XPS) (e : Ex), exC F m c x = some (e, y) → ∀ (p : PS) (Q : Ex → PS → Prop), Xrel p x → (∀ p', Xrel p' y → Q e p') → awp F c p Q := by
 intro c
 induction c with
 | skip =>
  intro m x y e h p Q hp hQ
  cases m with
  | zero => cases h
  | succ m => rw [exC_succ] at h; simp only [exStep, Option.some.injEq, Prod.mk.injEq] at h; obtain ⟨rfl, rfl⟩ := h; exact hQ p hp
 | exit id =>
  intro m x y e h p Q hp hQ
  cases m with
  | zero => cases h
  | succ m => rw [exC_succ] at h; simp only [exStep, Option.some.injEq, Prod.mk.injEq] at h; obtain ⟨rfl, rfl⟩ := h; exact hQ p hp
 | ret =>
  intro m x y e h p Q hp hQ
  cases m with
  | zero => cases h
  | succ m => rw [exC_succ] at h; simp only [exStep, Option.some.injEq, Prod.mk.injEq] at h; obtain ⟨rfl, rfl⟩ := h; exact hQ p hp
 | region id ops draw =>
  intro m x y e h p Q hp hQ
  cases m with
  | zero => cases h
  | succ m =>
   rw [exC_succ] at h
   simp only [exStep, finP_eq] at h
   cases hr : runX F.cfg ops ops.toList x.st with
   | none => rw [hr] at h; cases h
   | some z =>
    obtain ⟨s, fps⟩ := z
    rw [hr] at h
    have hb := runX_spec _ _ _ _ _ _ hr
    rw [← hp.1] at hb
    cases draw with
    | false =>
     simp only [Option.some.injEq, Prod.mk.injEq] at h
     obtain ⟨rfl, rfl⟩ := h
     simp only [awp]
     rw [(runBoth_spec _ _ _ _ _ _ hb).1]
     exact hQ _ (Xrel.fin hp.2 s F.keys F.bkeys)
    | true =>
     simp only at h
     cases hd : drawOk ops fps with
     | false => rw [hd] at h; cases h
     | true =>
      rw [hd] at h
      simp only [Option.some.injEq, Prod.mk.injEq] at h
      obtain ⟨rfl, rfl⟩ := h
      simp only [awp]
      rw [hb]
      exact ⟨hd, hQ _ (Xrel.fin hp.2 s F.keys F.bkeys)⟩
 | seq a b iha ihb =>
  intro m x y e h p Q hp hQ
  cases m with
  | zero => cases h
  | succ m =>
   rw [exC_succ] at h
   simp only [exStep] at h
   simp only [awp]
   cases ha : exC F m a x with
   | none => rw [ha] at h; cases h
   | some z =>
    obtain ⟨e1, z⟩ := z
    rw [ha] at h
    refine iha m x z e1 ha p _ hp fun p' hp' => ?_
    cases e1 with
    | normal => exact ihb m z y e h p' Q hp' hQ
    | exit i => simp only [Option.some.injEq, Prod.mk.injEq] at h; obtain ⟨rfl, rfl⟩ := h; exact hQ p' hp'
    | ret => simp only [Option.some.injEq, Prod.mk.injEq] at h; obtain ⟨rfl, rfl⟩ := h; exact hQ p' hp'
 | cond c a b iha ihb =>
  intro m x y e h p Q hp hQ
  cases m with
  | zero => cases h
  | succ m =>
   rw [exC_succ] at h
   simp only [exStep] at h
   simp only [awp]
   cases hc : condX c x with
   | none => rw [hc] at h; cases h
   | some v =>
    rw [hc] at h
    rw [condX_spec hp hc]
    cases v with
    | true => exact ⟨fun _ => iha m x y e h p Q hp hQ, fun h => by cases h⟩
    | false => exact ⟨fun h => (by cases h), fun _ => ihb m x y e h p Q hp hQ⟩
 | block id b ih =>
  intro m x y e h p Q hp hQ
  cases m with
  | zero => cases h
  | succ m =>
   rw [exC_succ] at h
   simp only [exStep] at h
   simp only [awp]
   cases ha : exC F m b x with
   | none => rw [ha] at h; cases h
   | some z =>
    obtain ⟨e1, z⟩ := z
    rw [ha] at h
    refine ih m x z e1 ha p _ hp fun p' hp' => ?_
    cases e1 with
    | normal => simp only [Option.some.injEq, Prod.mk.injEq] at h; obtain ⟨rfl, rfl⟩ := h; exact hQ p' hp'
    | ret => simp only [Option.some.injEq, Prod.mk.injEq] at h; obtain ⟨rfl, rfl⟩ := h; exact hQ p' hp'
    | exit i =>
     simp only at h
     cases hi : Nat.beq i id with
     | true =>
      rw [hi] at h
      simp only [Option.some.injEq, Prod.mk.injEq] at h; obtain ⟨rfl, rfl⟩ := h
      have := Nat.eq_of_beq_eq_true hi
      simp only [this, if_true]
      exact hQ p' hp'
     | false =>
      rw [hi] at h
      simp only [Option.some.injEq, Prod.mk.injEq] at h; obtain ⟨rfl, rfl⟩ := h
      have : i ≠ id := by rintro rfl; rw [Nat.beq_refl] at hi; cases hi
      simp only [this, if_false]
      exact hQ p' hp'
 | scope b ih =>
  intro m x y e h p Q hp hQ
  cases m with
  | zero => cases h
  | succ m =>
   rw [exC_succ] at h
   simp only [exStep] at h
   simp only [awp]
   exact ih m x y e h p Q hp hQ
 | loop b ih =>
  intro m x y e h p Q hp hQ
  let bl : List Key := liveK (maskOf (mkOf b)) F.bkeys
  let fz : XPS → XPS := fun x => { st := finX (maskOf F.keys) bl x.n x.st, n := x.n }
  let R : Nat → PS → Prop := fun n q => ∃ x, Xrel q (fz x) ∧ exC F n (.loop b) x = some (e, y)
  classical
  let μ : PS → Nat := fun q => if hq : ∃ n, R n q then (least_of hq).choose else 0
  simp only [awp]
  refine ⟨F.keys, bl, fun q => ∃ n, R n q, μ, ?_, ⟨m, x, Xrel.forget hp F.keys bl, h⟩, ?_⟩
  ·refine List.all_eq_true.2 fun k hk => ?_
   cases k with
   | inb i =>
    have : bl.contains (.inb i) = true := by
     rw [List.contains_iff_mem]
     exact List.mem_filter.2 ⟨hk, rfl⟩
    rw [this]; simp
   | loc t => rfl
   | esc t i => rfl
  ·intro q hq
   have hμ : μ q = (least_of hq).choose := dif_pos hq
   obtain ⟨x1, hx1, hl⟩ := (least_of hq).choose_spec.1
   cases hn : (least_of hq).choose with
   | zero => rw [hn] at hl; cases hl
   | succ n =>
    rw [hn, exC_succ] at hl
    simp only [exStep, finPL_eq] at hl
    cases hb : exC F n b (fz x1) with
    | none => rw [show exC F n b { st := finX (maskOf F.keys) (liveK (maskOf (mkOf b)) F.bkeys) x1.n x1.st, n := x1.n } = none from hb] at hl; cases hl
    | some z =>
     obtain ⟨e1, z⟩ := z
     rw [show exC F n b { st := finX (maskOf F.keys) (liveK (maskOf (mkOf b)) F.bkeys) x1.n x1.st, n := x1.n } = some (e1, z) from hb] at hl
     refine ih n (fz x1) z e1 hb q _ hx1 fun q' hq' => ?_
     cases e1 with
     | normal =>
      have hR : R n (Vs.forget F.keys bl q') := ⟨z, Xrel.forget hq' F.keys bl, hl⟩
      refine ⟨⟨n, hR⟩, ?_⟩
      have hex : ∃ n, R n (Vs.forget F.keys bl q') := ⟨n, hR⟩
      have : μ (Vs.forget F.keys bl q') = (least_of hex).choose := dif_pos hex
      show μ (Vs.forget F.keys bl q') < μ q
      rw [this, hμ, hn]
      exact Nat.lt_succ_of_le ((least_of hex).choose_spec.2 _ hR)
     | exit i => simp only [Option.some.injEq, Prod.mk.injEq] at hl; obtain ⟨rfl, rfl⟩ := hl; exact hQ q' hq'
     | ret => simp only [Option.some.injEq, Prod.mk.injEq] at hl; obtain ⟨rfl, rfl⟩ := hl; exact hQ q' hq'
 | _ =>
  intro m x y e h
  cases m with
  | zero => cases h
  | succ m => rw [exC_succ] at h; simp only [exStep] at h; cases h
end
end Go.Vs
namespace Go.Vs
noncomputable section
def eqBs : List UInt8 → List UInt8 → Bool
 | [], [] => true
 | a :: l, b :: m => match Nat.beq a.toNat b.toNat with | true => eqBs l m | false => false
 | _, _ => false
theorem eqBs_eq : ∀ {a b : List UInt8}, eqBs a b = true → a = b
 | [], [], _ => rfl
 | a :: l, b :: m, h => by
  simp only [eqBs] at h
  split at h
  ·rename_i h1
   rw [UInt8.toNat_inj.1 (Nat.eq_of_beq_eq_true h1), eqBs_eq h]
  ·cases h
 | [], _ :: _, h => by cases h
 | _ :: _, [], h => by cases h
mutual
def eqV : D → D → Bool
 | .int k a, .int k' b => decide (k = k') && decide (a = b)
 | .bool a, .bool b => a == b
 | .str a, .str b => eqBs a b
 | .nil, .nil => true
 | .sl e xs, .sl e' ys => match Nat.beq e e' with | true => eqVss xs ys | false => false
 | .nul a, .nul b => decide (a = b)
 | _, _ => false
def eqVs : List D → List D → Bool
 | [], [] => true
 | a :: l, b :: m => match eqV a b with | true => eqVs l m | false => false
 | _, _ => false
def eqVss : List (List D) → List (List D) → Bool
 | [], [] => true
 | a :: l, b :: m => match eqVs a b with | true => eqVss l m | false => false
 | _, _ => false
end
mutual
theorem eqV_eq : ∀ {a b : D}, eqV a b = true → a = b
 | .int k a, .int k' b, h => by simp only [eqV, Bool.and_eq_true, decide_eq_true_eq] at h; rw [h.1, h.2]
 | .bool a, .bool b, h => by simp only [eqV, beq_iff_eq] at h; rw [h]
 | .str a, .str b, h => by simp only [eqV] at h; rw [eqBs_eq h]
 | .nil, .nil, _ => rfl
 | .sl e xs, .sl e' ys, h => by
  simp only [eqV] at h
  split at h
  ·rename_i h1; rw [Nat.eq_of_beq_eq_true h1, eqVss_eq h]
  ·cases h
 | .nul a, .nul b, h => by simp only [eqV, decide_eq_true_eq] at h; rw [h]
 | .int .., .bool .., h | .int .., .str .., h | .int .., .nil, h | .int .., .sl .., h | .int .., .nul .., h => by simp [eqV] at h
 | .bool .., .int .., h | .bool .., .str .., h | .bool .., .nil, h | .bool .., .sl .., h | .bool .., .nul .., h => by simp [eqV] at h
 | .str .., .int .., h | .str .., .bool .., h | .str .., .nil, h | .str .., .sl .., h | .str .., .nul .., h => by simp [eqV] at h
 | .nil, .int .., h | .nil, .bool .., h | .nil, .str .., h | .nil, .sl .., h | .nil, .nul .., h => by simp [eqV] at h
 | .sl .., .int .., h | .sl .., .bool .., h | .sl .., .str .., h | .sl .., .nil, h | .sl .., .nul .., h => by simp [eqV] at h
 | .nul .., .int .., h | .nul .., .bool .., h | .nul .., .str .., h | .nul .., .nil, h | .nul .., .sl .., h => by simp [eqV] at h
theorem eqVs_eq : ∀ {a b : List D}, eqVs a b = true → a = b
 | [], [], _ => rfl
 | a :: l, b :: m, h => by
  simp only [eqVs] at h
  split at h
  ·rename_i h1; rw [eqV_eq h1, eqVs_eq h]
  ·cases h
 | [], _ :: _, h => by simp [eqVs] at h
 | _ :: _, [], h => by simp [eqVs] at h
theorem eqVss_eq : ∀ {a b : List (List D)}, eqVss a b = true → a = b
 | [], [], _ => rfl
 | a :: l, b :: m, h => by
  simp only [eqVss] at h
  split at h
  ·rename_i h1; rw [eqVs_eq h1, eqVss_eq h]
  ·cases h
 | [], _ :: _, h => by simp [eqVss] at h
 | _ :: _, [], h => by simp [eqVss] at h
end
def eqCaps : List (Key × Nat) → List (Key × Nat) → Bool
 | [], [] => true
 | a :: l, b :: m => match xkey a.1 b.1, Nat.beq a.2 b.2 with | true, true => eqCaps l m | _, _ => false
 | _, _ => false
theorem eqCaps_eq : ∀ {a b : List (Key × Nat)}, eqCaps a b = true → a = b
 | [], [], _ => rfl
 | (a, i) :: l, (b, j) :: m, h => by
  simp only [eqCaps] at h
  split at h
  ·rename_i h1 h2; rw [xkey_iff.1 h1, Nat.eq_of_beq_eq_true h2, eqCaps_eq h]
  ·cases h
 | [], _ :: _, h => by simp [eqCaps] at h
 | _ :: _, [], h => by simp [eqCaps] at h
def eqC : C → C → Bool
 | .d x, .d y => eqV x y
 | .own e xs, .own e' ys => match Nat.beq e e' with | true => eqVss xs ys | false => false
 | .ptr k o, .ptr k' o' => match xkey k k' with | true => Nat.beq o o' | false => false
 | .clo f l, .clo f' l' => match Nat.beq f f' with | true => eqCaps l l' | false => false
 | _, _ => false
theorem eqC_eq {a b : C} (h : eqC a b = true) : a = b := by
 cases a <;> cases b <;> simp only [eqC] at h <;> first | (cases h; done) | skip
 ·rw [eqV_eq h]
 ·split at h
  ·rename_i h1; rw [Nat.eq_of_beq_eq_true h1, eqVss_eq h]
  ·cases h
 ·split at h
  ·rename_i h1; rw [xkey_iff.1 h1, Nat.eq_of_beq_eq_true h]
  ·cases h
 ·split at h
  ·rename_i h1; rw [Nat.eq_of_beq_eq_true h1, eqCaps_eq h]
  ·cases h
def eqCs : List C → List C → Bool
 | [], [] => true
 | a :: l, b :: m => match eqC a b with | true => eqCs l m | false => false
 | _, _ => false
theorem eqCs_eq : ∀ {a b : List C}, eqCs a b = true → a = b
 | [], [], _ => rfl
 | a :: l, b :: m, h => by
  simp only [eqCs] at h
  split at h
  ·rename_i h1; rw [eqC_eq h1, eqCs_eq h]
  ·cases h
 | [], _ :: _, h => by simp [eqCs] at h
 | _ :: _, [], h => by simp [eqCs] at h
def eqSV : SV → SV → Bool
 | .one a, .one b => eqC a b
 | .agg a, .agg b => eqCs a b
 | _, _ => false
theorem eqSV_eq {a b : SV} (h : eqSV a b = true) : a = b := by
 cases a <;> cases b <;> simp only [eqSV] at h <;> first | (cases h; done) | skip
 ·rw [eqC_eq h]
 ·rw [eqCs_eq h]
structure XI where
 fn : Func
 var : List Nat
 res : List Nat
 keys : List Nat
 bk : List Key
 dat : List Nat := []
 outd : Bool := false
structure XE where
 T : List (TypeId × TI)
 eqs : List (TypeId × List Sc)
 A0 : FuncId → AFun
 tab : Nat → Option XI
 fuel : Nat
def xlk {α : Type} (t : Nat) : List (Nat × α) → Option α
 | [] => none
 | (u, a) :: r => match Nat.beq t u with | true => some a | false => xlk t r
theorem xlk_mem {α : Type} {t : Nat} {a : α} : ∀ {l : List (Nat × α)}, xlk t l = some a → (t, a) ∈ l
 | [], h => by cases h
 | (u, b) :: r, h => by
  simp only [xlk] at h
  split at h
  ·rename_i h1
   rw [Option.some.injEq] at h
   rw [Nat.eq_of_beq_eq_true h1, h]
   exact List.mem_cons_self ..
  ·exact List.mem_cons_of_mem _ (xlk_mem h)
def argX : Nat → List SV → XSt
 | _, [] => []
 | i, v :: vs => (.arg i, { v }) :: argX (i + 1) vs
def slotX : List (Nat × SV) → XSt
 | [] => []
 | (t, v) :: l => (.tmp t, { v }) :: slotX l
def boxX : List (Key × List C) → XSt
 | [] => []
 | (k, b) :: l => (.box k, { v := .agg b }) :: boxX l
def ofPS (p : PS) : XSt := slotX p.slots ++ (boxX p.boxes ++ argX 0 p.args)
theorem lkX_append (r : Res) : ∀ (a b : XSt), (∀ p ∈ a, xres r p.1 = false) → lkX r (a ++ b) = lkX r b
 | [], _, _ => rfl
 | (q, x) :: a, b, h => by
  have h1 := h (q, x) (List.mem_cons_self ..)
  simp only [List.cons_append, lkX_cons, h1]
  exact lkX_append r a b fun p hp => h p (List.mem_cons_of_mem _ hp)
theorem slotX_tmp (t : Nat) (b : XSt) (hb : lkX (.tmp t) b = {}) : ∀ l : List (Nat × SV), lkX (.tmp t) (slotX l ++ b) = { v := (lk t l).getD .undef }
 | [] => hb
 | (u, v) :: l => by
  have ih := slotX_tmp t b hb l
  simp only [slotX, List.cons_append, lkX_cons, lk]
  by_cases h : t = u
  ·subst h
   have : xres (.tmp t) (.tmp t) = true := xres_self _
   simp [this]
  ·have : xres (.tmp t) (.tmp u) = false := by
    cases hx : xres (.tmp t) (.tmp u)
    ·rfl
    ·exact absurd (by have := xres_iff.1 hx; simpa using this) h
   simp only [this, if_neg h]
   exact ih
theorem boxX_box (k : Key) (b : XSt) (hb : lkX (.box k) b = {}) : ∀ l : List (Key × List C), lkX (.box k) (boxX l ++ b) = { v := match lkK k l with | some cs => .agg cs | none => .undef }
 | [] => hb
 | (u, v) :: l => by
  have ih := boxX_box k b hb l
  simp only [boxX, List.cons_append, lkX_cons, lkK]
  by_cases h : k = u
  ·subst h
   have : xres (.box k) (.box k) = true := xres_self _
   simp [this]
  ·have : xres (.box k) (.box u) = false := by
    cases hx : xres (.box k) (.box u)
    ·rfl
    ·exact absurd (by have := xres_iff.1 hx; simpa using this) h
   simp only [this, if_neg h]
   exact ih
theorem argX_arg (i : Nat) : ∀ (l : List SV) (j : Nat), lkX (.arg i) (argX j l) = { v := if j ≤ i then l.getD (i - j) .undef else .undef }
 | [], j => by simp [argX, lkX_nil]
 | v :: l, j => by
  have ih := argX_arg i l (j + 1)
  simp only [argX, lkX_cons]
  by_cases h : i = j
  ·subst h
   have : xres (.arg i) (.arg i) = true := xres_self _
   simp [this]
  ·have : xres (.arg i) (.arg j) = false := by
    cases hx : xres (.arg i) (.arg j)
    ·rfl
    ·exact absurd (by have := xres_iff.1 hx; simpa using this) h
   simp only [this]
   rw [ih]
   by_cases h2 : j + 1 ≤ i
   ·rw [if_pos h2, if_pos (by omega), show i - j = (i - (j + 1)) + 1 by omega, List.getD_cons_succ]
   ·rw [if_neg h2, if_neg (by omega)]
theorem ofPS_st (p : PS) : p.st = cX (ofPS p) := by
 funext r
 have hsl : ∀ (l : List (Nat × SV)) q, q ∈ slotX l → ∃ t, q.1 = .tmp t := by
  intro l
  induction l with
  | nil => intro q h; cases h
  | cons x l ih => intro q h; exact (List.mem_cons.1 h).elim (fun e => ⟨_, by rw [e]⟩) (ih q)
 have hbx : ∀ (l : List (Key × List C)) q, q ∈ boxX l → ∃ t, q.1 = .box t := by
  intro l
  induction l with
  | nil => intro q h; cases h
  | cons x l ih => intro q h; exact (List.mem_cons.1 h).elim (fun e => ⟨_, by rw [e]⟩) (ih q)
 have har : ∀ (l : List SV) j q, q ∈ argX j l → ∃ t, q.1 = .arg t := by
  intro l
  induction l with
  | nil => intro j q h; cases h
  | cons x l ih => intro j q h; exact (List.mem_cons.1 h).elim (fun e => ⟨_, by rw [e]⟩) (ih _ q)
 have none_of : ∀ (r : Res) (l : XSt), (∀ p ∈ l, xres r p.1 = false) → lkX r l = {} := by
  intro r l h
  have := lkX_append r l [] h
  rw [List.append_nil] at this
  rw [this]; rfl
 cases r with
 | tmp t =>
  show ({ v := (lk t p.slots).getD .undef } : RV) = lkX _ (slotX p.slots ++ (boxX p.boxes ++ argX 0 p.args))
  rw [slotX_tmp]
  refine none_of _ _ fun q hq => ?_
  rcases List.mem_append.1 hq with h | h
  ·obtain ⟨k, e⟩ := hbx _ _ h; rw [e]; rfl
  ·obtain ⟨k, e⟩ := har _ _ _ h; rw [e]; rfl
 | box k =>
  show _ = lkX _ (slotX p.slots ++ (boxX p.boxes ++ argX 0 p.args))
  rw [lkX_append]
  ·rw [boxX_box]
   ·rfl
   ·refine none_of _ _ fun q hq => ?_
    obtain ⟨k, e⟩ := har _ _ _ hq; rw [e]; rfl
  ·intro q hq
   obtain ⟨k, e⟩ := hsl _ _ hq; rw [e]; rfl
 | arg i =>
  show _ = lkX _ (slotX p.slots ++ (boxX p.boxes ++ argX 0 p.args))
  rw [lkX_append, lkX_append, argX_arg]
  ·simp; rfl
  ·intro q hq
   obtain ⟨k, e⟩ := hbx _ _ hq; rw [e]; rfl
  ·intro q hq
   obtain ⟨k, e⟩ := hsl _ _ hq; rw [e]; rfl
def frzCells (i : Nat) : Nat → List C → List C → List (Nat × Nat)
 | j, .own _ _ :: l, .d _ :: m => (i, j) :: frzCells i (j + 1) l m
 | j, _ :: l, _ :: m => frzCells i (j + 1) l m
 | _, _, _ => []
def frzGo : Nat → List SV → XSt → List (Nat × Nat)
 | _, [], _ => []
 | i, v :: vs, s => frzCells i 0 v.cells (lkX (.arg i) s).v.cells ++ frzGo (i + 1) vs s
def argsSame : Nat → List SV → XSt → Bool
 | _, [], _ => true
 | i, v :: vs, s => match eqSV (lkX (.arg i) s).v v with
  | true => argsSame (i + 1) vs s
  | false => false
theorem argsSame_spec : ∀ (l : List SV) (i : Nat) (s : XSt), argsSame i l s = true → ∀ j, j < l.length → (cX s (.arg (i + j))).v = l.getD j .undef
 | [], _, _, _, j, h => by simp at h
 | v :: l, i, s, h, j, hj => by
  simp only [argsSame] at h
  split at h
  ·rename_i h1
   cases j with
   | zero => exact eqSV_eq h1
   | succ j =>
    have := argsSame_spec l (i + 1) s h j (by simpa using hj)
    rw [List.getD_cons_succ, ← this, show i + (j + 1) = i + 1 + j by omega]
  ·cases h
section
variable {β : Type}
def frBs : List (List C) → (List (List C) → β) → β
 | [], k => k []
 | b :: l, k => frEs b fun b => frBs l fun l => k (b :: l)
theorem frBs_eq : ∀ (l : List (List C)) (k : List (List C) → β), frBs l k = k l
 | [], _ => rfl
 | a :: l, k => by rw [frBs, frEs_eq, frBs_eq l]
def frSVs : List SV → (List SV → β) → β
 | [], k => k []
 | v :: l, k => frV frEs frE v fun v => frSVs l fun l => k (v :: l)
theorem frSVs_eq : ∀ (l : List SV) (k : List SV → β), frSVs l k = k l
 | [], _ => rfl
 | a :: l, k => by rw [frSVs, frV_eq frEs_eq frE_eq, frSVs_eq l]
end
def finishX (cfg : Cfg) (res : List ResultVar) (nb : Nat) (args : List SV) (y : XPS) : Option CallRes :=
 match (exitP cfg res nb).bothX y.st with
 | some ((v, bs), s, _, _) =>
  let fz := frzGo 0 args s
  match argsSame 0 (frzArgs fz args) s with
  | true => frV frEs frE v fun v => frBs bs fun bs => some { v, boxes := bs, frz := fz }
  | false => none
 | none => none
theorem finish_spec {cfg : Cfg} {res : List ResultVar} {args : List SV} {nb : Nat} {y : XPS} {r : CallRes} {e : Ex} (he : e = .normal ∨ e = .ret) (h : finishX cfg res nb args y = some r) {p : PS} (hp : Xrel p y) : Ends cfg res args nb r e p := by
 refine ⟨he, ?_⟩
 unfold finishX at h
 cases hx : (exitP cfg res nb).bothX y.st with
 | none => rw [hx] at h; cases h
 | some x =>
  obtain ⟨⟨v, bs⟩, s, f, g⟩ := x
  rw [hx] at h
  simp only at h
  split at h
  ·rename_i hs
   simp only [frV_eq frEs_eq frE_eq, frBs_eq, Option.some.injEq] at h
   subst h
   have := bothX_exec hx
   rw [← hp.1] at this
   rw [this]
   refine ⟨rfl, rfl, fun i hi => ?_⟩
   have := argsSame_spec _ 0 s hs i (by rw [frzArgs_length]; exact hi)
   rwa [Nat.zero_add] at this
  ·cases h
def XE.cfg (E : XE) (I : XI) (Γ : FuncId → AFun) : Cfg := { N := I.fn.ntmps, T := E.T, Γ := fun _ g => some (Γ g), var := I.var, res := I.res, eqs := E.eqs, dat := I.dat, outd := I.outd }
def exBody (E : XE) (ih : FuncId → AFun) (I : XI) (c : Code) (args : List SV) (boxes : List (List C)) : Option CallRes :=
 let F : VF := { cfg := E.cfg I fun g args boxes => match E.A0 g args boxes with | some r => some r | none => ih g args boxes, keys := I.keys, bkeys := inbs boxes.length ++ I.bk }
 frSVs args fun args => frBs boxes fun boxes =>
 match Nat.ble args.length I.fn.ntmps with
 | true => frSt (ofPS (startPS args boxes)) fun st => match exC F E.fuel c { st, n := args.length } with
  | some (e, y) => match e with
   | .exit _ => none
   | _ => finishX F.cfg I.fn.results.toList boxes.length args y
  | none => none
 | false => none
def exStepF (E : XE) (ih : FuncId → AFun) : FuncId → AFun := fun f args boxes =>
 match E.tab f with
 | none => none
 | some I => match I.fn.body with
  | none => none
  | some c => exBody E ih I c args boxes
def exFn (E : XE) (n : Nat) : FuncId → AFun := Nat.rec (fun _ _ _ => none) (fun _ ih => exStepF E ih) n
structure XOK (P : Program) (X : XE) : Prop where
 mix : P.follows .mixedOrders = true
 T : ∀ t i, lk t X.T = some i → tiOf P t = some i
 E : ∀ t sh, lk t X.eqs = some sh → EqOk P t sh
 A0 : ∀ g, CallOK P g (X.A0 g)
 tab : ∀ f I, X.tab f = some I → P.funcs[f]? = some I.fn ∧ (I.fn.name == "runtime.NumGoroutine") = false
theorem exFn_ok {P : Program} {E : XE} (h : XOK P E) : ∀ n f, FnCalls P f (exFn E n f) ∧ CallOK P f (exFn E n f) := by
 intro n
 induction n with
 | zero => intro f; exact ⟨(fun args boxes r hr => by cases hr), (fun args boxes r hr => by cases hr)⟩
 | succ n ih =>
  intro f
  show FnCalls P f (exStepF E (exFn E n) f) ∧ CallOK P f (exStepF E (exFn E n) f)
  cases ht : E.tab f with
  | none =>
   have : exStepF E (exFn E n) f = fun _ _ => none := by funext a b; simp only [exStepF, ht]
   rw [this]
   exact ⟨(fun args boxes r hr => by cases hr), (fun args boxes r hr => by cases hr)⟩
  | some I =>
   cases hb : I.fn.body with
   | none =>
    have : exStepF E (exFn E n) f = fun _ _ => none := by funext a b; simp only [exStepF, ht, hb]
    rw [this]
    exact ⟨(fun args boxes r hr => by cases hr), (fun args boxes r hr => by cases hr)⟩
   | some c =>
    have e : exStepF E (exFn E n) f = exBody E (exFn E n) I c := by funext a b; simp only [exStepF, ht, hb]
    rw [e]
    obtain ⟨hf, hname⟩ := h.tab f I ht
    have key : FnCalls P f (exBody E (exFn E n) I c) := by
     intro args boxes r hr
     let F : VF := { cfg := E.cfg I fun g args boxes => match E.A0 g args boxes with | some r => some r | none => exFn E n g args boxes, keys := I.keys, bkeys := inbs boxes.length ++ I.bk }
     have hC : COK P F.cfg := by
      refine ⟨⟨h.T, h.E⟩, fun t g G hG => ?_⟩
      have hG' : some (fun args boxes => match E.A0 g args boxes with | some r => some r | none => exFn E n g args boxes) = some G := hG
      cases hG'
      intro args boxes r hr
      simp only at hr
      cases h0 : E.A0 g args boxes with
      | some r' =>
       rw [h0] at hr
       cases hr
       exact h.A0 g args boxes _ h0
      | none =>
       rw [h0] at hr
       exact (ih g).2 args boxes r hr
     classical
     have := fn_calls (f := f) (V := F) (F := fun a b => if a = args ∧ b = boxes then some r else none) hf hb h.mix hC rfl ?_
     ·exact this args boxes r (by simp)
     ·intro a b r' h'
      split at h'
      ·rename_i hab
       obtain ⟨rfl, rfl⟩ := hab
       cases h'
       unfold exBody at hr
       simp only [frSVs_eq, frBs_eq, frSt_eq] at hr
       split at hr
       ·rename_i hlen
        refine ⟨Nat.le_of_ble_eq_true hlen, fun i hi => List.mem_append_left _ (List.mem_of_getElem? (inbs_get hi)), ?_⟩
        cases hx : exC F E.fuel c { st := ofPS (startPS a b), n := a.length } with
        | none =>
         rw [show exC _ E.fuel c { st := ofPS (startPS a b), n := a.length } = none from hx] at hr
         cases hr
        | some z =>
         obtain ⟨e1, y⟩ := z
         rw [show exC _ E.fuel c { st := ofPS (startPS a b), n := a.length } = some (e1, y) from hx] at hr
         refine exC_sound F c E.fuel _ y e1 hx _ _ ⟨ofPS_st _, rfl⟩ fun p' hp' => ?_
         cases e1 with
         | exit i => cases hr
         | normal => exact finish_spec (.inl rfl) hr hp'
         | ret => exact finish_spec (.inr rfl) hr hp'
       ·cases hr
      ·cases h'
    exact ⟨key, fn_ok hf hname hb key⟩
end
end Go.Vs
namespace Go.Vs
noncomputable section
section
variable {β : Type}
def dfU (b : UInt8) (k : UInt8 → β) : β := frN b.toNat fun n => k (UInt8.ofNat n)
theorem dfU_eq (b : UInt8) (k : UInt8 → β) : dfU b k = k b := by
 unfold dfU
 rw [frN_eq, UInt8.ofNat_toNat]
def dfS (l : List UInt8) : (List UInt8 → β) → β := List.rec (fun k => k []) (fun d _ ih k => dfU d fun d => ih fun l => k (d :: l)) l
theorem dfS_eq : ∀ (l : List UInt8) (k : List UInt8 → β), dfS l k = k l
 | [], _ => rfl
 | a :: l, k => (dfU_eq a fun d => dfS l fun l => k (d :: l)).trans (dfS_eq l fun l => k (a :: l))
mutual
def dfD : D → (D → β) → β
 | .int t n, k => frI n fun n => k (.int t n)
 | .bool b, k => frB b fun b => k (.bool b)
 | .str s, k => dfS s fun s => k (.str s)
 | .nil, k => k .nil
 | .sl e xs, k => dfRs xs fun xs => k (.sl e xs)
 | .nul n, k => k (.nul n)
def dfDs : List D → (List D → β) → β
 | [], k => k []
 | d :: l, k => dfD d fun d => dfDs l fun l => k (d :: l)
def dfRs : List (List D) → (List (List D) → β) → β
 | [], k => k []
 | d :: l, k => dfDs d fun d => dfRs l fun l => k (d :: l)
end
def dfC (c : C) (k : C → β) : β :=
 match c with
 | .d x => dfD x fun x => k (.d x)
 | .own e xs => frN e fun e => dfRs xs fun xs => k (.own e xs)
 | c => frC c k
def dfCs : List C → (List C → β) → β
 | [], k => k []
 | d :: l, k => dfC d fun d => dfCs l fun l => k (d :: l)
def dfBs : List (List C) → (List (List C) → β) → β
 | [], k => k []
 | d :: l, k => dfCs d fun d => dfBs l fun l => k (d :: l)
def dfV (v : SV) (k : SV → β) : β :=
 match v with
 | .one c => dfC c fun c => k (.one c)
 | .agg cs => dfCs cs fun cs => k (.agg cs)
 | .tup vs => frT dfCs vs fun vs => k (.tup vs)
 | .undef => k .undef
end
def plainR (o : Option CallRes) : Option CallRes := match o with
 | some r => dfV r.v fun v => dfBs r.boxes fun bs => frL r.frz fun fz => some { v, boxes := bs, frz := fz }
 | none => none
def nthL {α : Type} (n : Nat) : List (List α) → List α := Nat.rec (fun l => match l with | [] => [] | a :: _ => a) (fun _ ih l => match l with | [] => [] | _ :: r => ih r) n
def xlk8 {α : Type} (t : Nat) (l : List (List (Nat × α))) : Option α := xlk t (nthL (Nat.div t 8) l)
def AllP {α : Type} (p : α → Prop) : List α → Prop
 | [] => True
 | a :: r => p a ∧ AllP p r
theorem AllP.mem {α : Type} {p : α → Prop} : ∀ {l : List α}, AllP p l → ∀ x ∈ l, p x
 | _ :: _, h, _, .head _ => h.1
 | _ :: _, h, _, .tail _ hx => AllP.mem h.2 _ hx
theorem nthL_all {α : Type} {p : α → Prop} : ∀ (n : Nat) (l : List (List α)), AllP (AllP p) l → AllP p (nthL n l)
 | 0, [], _ => trivial
 | 0, a :: _, h => h.1
 | n + 1, [], _ => trivial
 | n + 1, _ :: r, h => nthL_all n r h.2
theorem xlk8_all {α : Type} {p : Nat × α → Prop} {t : Nat} {a : α} {l : List (List (Nat × α))} (h : AllP (AllP p) l) (hx : xlk8 t l = some a) : p (t, a) := AllP.mem (nthL_all _ l h) _ (xlk_mem hx)
def eqSVs : List SV → List SV → Bool
 | [], [] => true
 | a :: l, b :: m => match eqSV a b with | true => eqSVs l m | false => false
 | _, _ => false
theorem eqSVs_eq : ∀ {a b : List SV}, eqSVs a b = true → a = b
 | [], [], _ => rfl
 | a :: l, b :: m, h => by
  simp only [eqSVs] at h
  split at h
  ·rename_i h1; rw [eqSV_eq h1, eqSVs_eq h]
  ·cases h
 | [], _ :: _, h => by simp [eqSVs] at h
 | _ :: _, [], h => by simp [eqSVs] at h
def eqBoxes : List (List C) → List (List C) → Bool
 | [], [] => true
 | a :: l, b :: m => match eqCs a b with | true => eqBoxes l m | false => false
 | _, _ => false
theorem eqBoxes_eq : ∀ {a b : List (List C)}, eqBoxes a b = true → a = b
 | [], [], _ => rfl
 | a :: l, b :: m, h => by
  simp only [eqBoxes] at h
  split at h
  ·rename_i h1; rw [eqCs_eq h1, eqBoxes_eq h]
  ·cases h
 | [], _ :: _, h => by simp [eqBoxes] at h
 | _ :: _, [], h => by simp [eqBoxes] at h
structure Fact where
 f : FuncId
 args : List SV
 boxes : List (List C)
 r : CallRes
def factOf (g : FuncId) (args : List SV) (boxes : List (List C)) : List Fact → Option CallRes
 | [] => none
 | x :: l => match Nat.beq g x.f with
  | true => match eqSVs args x.args with
   | true => match eqBoxes boxes x.boxes with
    | true => some x.r
    | false => factOf g args boxes l
   | false => factOf g args boxes l
  | false => factOf g args boxes l
def memo (l : List Fact) (A : FuncId → AFun) : FuncId → AFun := fun g args boxes =>
 match factOf g args boxes l with
 | some r => some r
 | none => A g args boxes
def FactOk (P : Program) (x : Fact) : Prop := ∃ F, CallOK P x.f F ∧ F x.args x.boxes = some x.r
theorem factOf_ok {P : Program} {g : FuncId} {args : List SV} {boxes : List (List C)} {r : CallRes} : ∀ {l : List Fact}, (∀ x ∈ l, FactOk P x) → factOf g args boxes l = some r → ∃ F, CallOK P g F ∧ F args boxes = some r
 | [], _, h => by cases h
 | x :: l, hl, h => by
  have ih : factOf g args boxes l = some r → ∃ F, CallOK P g F ∧ F args boxes = some r := fun h => factOf_ok (fun y hy => hl y (List.mem_cons_of_mem _ hy)) h
  simp only [factOf] at h
  split at h
  ·rename_i h1
   split at h
   ·rename_i h2
    split at h
    ·rename_i h3
     cases h
     rw [Nat.eq_of_beq_eq_true h1, eqSVs_eq h2, eqBoxes_eq h3]
     exact hl x (List.mem_cons_self ..)
    ·exact ih h
   ·exact ih h
  ·exact ih h
theorem memo_ok {P : Program} {l : List Fact} {A : FuncId → AFun} (hA : ∀ g, CallOK P g (A g)) (hl : ∀ x ∈ l, FactOk P x) (g : FuncId) : CallOK P g (memo l A g) := by
 intro args boxes r h
 unfold memo at h
 split at h
 ·rename_i r' h'
  cases h
  obtain ⟨F, h1, h2⟩ := factOf_ok hl h'
  exact h1 args boxes _ h2
 ·exact hA g args boxes r h
theorem fact_of {P : Program} {E : XE} (h : XOK P E) {n : Nat} {x : Fact} (hx : exFn E n x.f x.args x.boxes = some x.r) : FactOk P x := ⟨_, (exFn_ok h n x.f).2, hx⟩
end
end Go.Vs
namespace Go.Ve
open Go.Vs
noncomputable section
def factT (f : FuncId) (S : Sig) (x : S.X) (y : S.Y) : Fact := { f := f, args := (S.instA x).map cSV, boxes := (S.instB x).map cEs, r := { v := cSV (S.out y (S.flag y)).1, boxes := (newBoxes (S.instB x) (S.out y (S.flag y)).2).map cEs, frz := S.frz } }
theorem call_of {P : Program} {f : FuncId} {S : Sig} {hok : S.ok = true} {sh : S.X → Option S.Y} (h : ∀ x y, sh x = some y → FactOk P (factT f S x y)) : Good1 P (f, S.con hok sh) := by
 show CallOK P f (S.F sh)
 intro args boxes r hF
 unfold Sig.F at hF
 split at hF
 ·rename_i x hx
  split at hF
  ·rename_i y hy
   cases hF
   obtain ⟨rfl, rfl⟩ := Sig.dec_some S hok hx
   obtain ⟨F, h1, h2⟩ := h x y hy
   exact h1 _ _ _ h2
  ·cases hF
 ·cases hF
end
end Go.Ve
namespace Go.Fn
open Classical in
noncomputable def oneO {α β : Type} (a : α) (b : β) (x : α) : Option β := if x = a then some b else none
theorem oneO_some {α β : Type} {a x : α} {b y : β} (h : oneO a b x = some y) : x = a ∧ y = b := by
 unfold oneO at h
 split at h
 ·rename_i e; cases h; exact ⟨e, rfl⟩
 ·cases h
theorem oneO_self {α β : Type} (a : α) (b : β) : oneO a b a = some b := by unfold oneO; rw [if_pos rfl]
theorem oneO_ne {α β : Type} {a x : α} (b : β) (h : x ≠ a) : oneO a b x = none := by unfold oneO; rw [if_neg h]
def orO {β : Type} (p q : Option β) : Option β := match p with | some y => some y | none => q
theorem orO_some {β : Type} {p q : Option β} {y : β} (h : orO p q = some y) : p = some y ∨ q = some y := by
 cases p with
 | none => exact .inr h
 | some z => exact .inl h
end Go.Fn
namespace Go.Vs
def fitTy : Option TypeDesc → Sc → Bool
 | some (.int k'), .int k => decide (k' = k)
 | some .bool, .bool => true
 | some .string, .str => true
 | _, _ => false
def flatF (P : Program) : List Field → List Sc → Nat → Bool
 | [], [], _ => true
 | f :: fs, k :: sh, j => f.name != "_" && f.offset == j && fitTy (P.underlying f.type) k && flatF P fs sh (j + 1)
 | _, _, _ => false
theorem all2_drop {w : World} {Z : Nat → Prop} {us : List Value} {j : Nat} {d : D} {ds : List D} (h : DL w Z (us.drop j) (d :: ds)) : ∃ v, us[j]? = some v ∧ DRel w Z d v ∧ DL w Z (us.drop (j + 1)) ds := by
 have e : (us.drop j)[0]? = us[j]? := by rw [List.getElem?_drop, Nat.add_zero]
 have e2 : us.drop (j + 1) = (us.drop j).drop 1 := by rw [List.drop_drop]
 rw [← e, e2]
 generalize us.drop j = l at h
 match l, h with
 | v :: l, h => exact ⟨v, rfl, h.1, h.2⟩
theorem eqFields_flat {P : Program} {w : World} {Z : Nat → Prop} (d : Nat) (xs ys : Array Value) : ∀ (fs : List Field) (sh : List Sc) (j : Nat) (ds es : List D), flatF P fs sh j = true → fitSc sh ds = true → fitSc sh es = true →
  DL w Z (xs.toList.drop j) ds → DL w Z (ys.toList.drop j) es → (Op.eqFields (d + 1) xs ys fs).run P w = .ok (eqDs ds es) w
 | [], sh, j, ds, es, hf, h1, h2, _, _ => by
  cases sh with
  | cons => cases hf
  | nil =>
   cases ds with
   | cons => cases h1
   | nil =>
    cases es with
    | cons => cases h2
    | nil => simp [Op.eqFields, eqDs]
 | f :: fs, sh, j, ds, es, hf, h1, h2, h3, h4 => by
  cases sh with
  | nil => cases hf
  | cons k sh =>
   simp only [flatF, Bool.and_eq_true, bne_iff_ne, beq_iff_eq] at hf
   obtain ⟨⟨⟨f1, f2⟩, f3⟩, f4⟩ := hf
   cases ds with
   | nil => cases k <;> cases h1
   | cons a ds =>
    cases es with
    | nil => cases k <;> cases h2
    | cons b es =>
     obtain ⟨u, u1, u2, u3⟩ := all2_drop h3
     obtain ⟨v, v1, v2, v3⟩ := all2_drop h4
     have hu : xs[f.offset]? = some u := by rw [f2]; simpa using u1
     have hv : ys[f.offset]? = some v := by rw [f2]; simpa using v1
     have key : P.plainKey f.type = true → (∀ (r : Bool), r = eqD a b → (Op.equalIn (d + 1) f.type u v).run P w = .ok r w) → fitSc sh ds = true → fitSc sh es = true → (Op.eqFields (d + 1) xs ys (f :: fs)).run P w = .ok (eqDs (a :: ds) (b :: es)) w := by
      intro hp hr g1 g2
      have ih := eqFields_flat d xs ys fs sh (j + 1) ds es f4 g1 g2 u3 v3
      simp only [Op.eqFields, ne_eq, f1, not_false_eq_true, if_true, Sem.run_bind, run_part_plain w hp hu, run_part_plain w hp hv, Result.andThen_ok, hr _ rfl]
      cases hq : eqD a b with
      | true => simp [eqDs, hq, ih]
      | false => simp [eqDs, hq]
     cases k with
     | int k =>
      cases a <;> simp only [fitSc, Bool.and_eq_true, decide_eq_true_eq, Bool.false_eq_true] at h1
      cases b <;> simp only [fitSc, Bool.and_eq_true, decide_eq_true_eq, Bool.false_eq_true] at h2
      obtain ⟨rfl, g1⟩ := h1
      obtain ⟨e, g2⟩ := h2
      subst e
      cases hty : P.underlying f.type with
      | none => rw [hty] at f3; cases f3
      | some ty =>
       rw [hty] at f3
       cases ty <;> first | (simp only [fitTy, Bool.false_eq_true] at f3; done) | skip
       refine key (by simp [Program.plainKey, hty]) (fun r hr => ?_) g1 g2
       have u2 : u = _ := u2
       have v2 : v = _ := v2
       subst hr; rw [u2, v2, run_equalIn_int w d f.type _ _ _ _ hty]; rfl
     | bool =>
      cases a <;> simp only [fitSc, Bool.false_eq_true] at h1
      cases b <;> simp only [fitSc, Bool.false_eq_true] at h2
      cases hty : P.underlying f.type with
      | none => rw [hty] at f3; cases f3
      | some ty =>
       rw [hty] at f3
       cases ty <;> first | (simp only [fitTy, Bool.false_eq_true] at f3; done) | skip
       refine key (by simp [Program.plainKey, hty]) (fun r hr => ?_) h1 h2
       have u2 : u = _ := u2
       have v2 : v = _ := v2
       subst hr; rw [u2, v2, run_equalIn_bool' w d f.type _ _ hty]; rfl
     | str =>
      cases a <;> simp only [fitSc, Bool.false_eq_true] at h1
      cases b <;> simp only [fitSc, Bool.false_eq_true] at h2
      cases hty : P.underlying f.type with
      | none => rw [hty] at f3; cases f3
      | some ty =>
       rw [hty] at f3
       cases ty <;> first | (simp only [fitTy, Bool.false_eq_true] at f3; done) | skip
       refine key (by simp [Program.plainKey, hty]) (fun r hr => ?_) h1 h2
       have u2 : u = _ := u2
       have v2 : v = _ := v2
       subst hr; rw [u2, v2, run_equalIn_string w d f.type _ _ hty, ByteArray.toList_eq, ByteArray.toList_eq]
       simp only [eqD]
       congr 1
       rw [Bool.eq_iff_iff]
       simp
theorem checkFields_flat {P : Program} {w : World} {Z : Nat → Prop} (em : Bool) (d : Nat) (xs : Array Value) : ∀ (fs : List Field) (sh : List Sc) (j : Nat) (ds : List D), flatF P fs sh j = true → fitSc sh ds = true →
  DL w Z (xs.toList.drop j) ds → (forIn (m := Sem) fs PUnit.unit fun f _ => do
   if f.name ≠ "_" then do
    Instr.checkKey em (d + 1) f.type (← part f.type xs f.offset)
    pure (ForInStep.yield PUnit.unit)
   else pure (ForInStep.yield PUnit.unit)).run P w = .ok PUnit.unit w
 | [], sh, j, ds, hf, h1, _ => by simp
 | f :: fs, sh, j, ds, hf, h1, h3 => by
  cases sh with
  | nil => cases hf
  | cons k sh =>
   simp only [flatF, Bool.and_eq_true, bne_iff_ne, beq_iff_eq] at hf
   obtain ⟨⟨⟨f1, f2⟩, f3⟩, f4⟩ := hf
   cases ds with
   | nil => cases k <;> cases h1
   | cons a ds =>
    obtain ⟨u, u1, u2, u3⟩ := all2_drop h3
    have hu : xs[f.offset]? = some u := by rw [f2]; simpa using u1
    have key : P.plainKey f.type = true → (Instr.checkKey em (d + 1) f.type u).run P w = .ok () w → fitSc sh ds = true → (forIn (m := Sem) (f :: fs) PUnit.unit fun f _ => do
      if f.name ≠ "_" then do
       Instr.checkKey em (d + 1) f.type (← part f.type xs f.offset)
       pure (ForInStep.yield PUnit.unit)
      else pure (ForInStep.yield PUnit.unit)).run P w = .ok PUnit.unit w := by
     intro hp hr g1
     have ih := checkFields_flat em d xs fs sh (j + 1) ds f4 g1 u3
     rw [List.forIn_cons]
     simp only [ne_eq, f1, not_false_eq_true, if_true, Sem.run_bind, run_part_plain w hp hu, Result.andThen_ok, hr, Sem.run_pure]
     exact ih
    cases k with
    | int k =>
     cases a <;> simp only [fitSc, Bool.and_eq_true, decide_eq_true_eq, Bool.false_eq_true] at h1
     cases hty : P.underlying f.type with
     | none => rw [hty] at f3; cases f3
     | some ty =>
      rw [hty] at f3
      cases ty <;> first | (simp only [fitTy, Bool.false_eq_true] at f3; done) | skip
      refine key (by simp [Program.plainKey, hty]) ?_ h1.2
      have u2 : u = _ := u2
      rw [u2]
      simp [Instr.checkKey, run_underlying hty]
    | bool =>
     cases a <;> simp only [fitSc, Bool.false_eq_true] at h1
     cases hty : P.underlying f.type with
     | none => rw [hty] at f3; cases f3
     | some ty =>
      rw [hty] at f3
      cases ty <;> first | (simp only [fitTy, Bool.false_eq_true] at f3; done) | skip
      refine key (by simp [Program.plainKey, hty]) ?_ h1
      have u2 : u = _ := u2
      rw [u2]
      simp [Instr.checkKey, run_underlying hty]
    | str =>
     cases a <;> simp only [fitSc, Bool.false_eq_true] at h1
     cases hty : P.underlying f.type with
     | none => rw [hty] at f3; cases f3
     | some ty =>
      rw [hty] at f3
      cases ty <;> first | (simp only [fitTy, Bool.false_eq_true] at f3; done) | skip
      refine key (by simp [Program.plainKey, hty]) ?_ h1
      have u2 : u = _ := u2
      rw [u2]
      simp [Instr.checkKey, run_underlying hty]
theorem eqOk_flat {P : Program} {t : TypeId} {sh : List Sc} (h1 : P.underlying t = some (.struct (P.fieldsOf t))) (h2 : P.stoodInHeld t = false) (h3 : P.eqGuardType P.depth t = false) (h4 : flatF P (P.fieldsOf t).toList sh 0 = true) : EqOk P t sh := by
 have hE : ∀ (w : World) (Z : Nat → Prop) (xs ys : Array Value) (ds es : List D), DL w Z xs.toList ds → DL w Z ys.toList es → fitSc sh ds = true → fitSc sh es = true → (Op.equalIn 10000 t (.agg xs) (.agg ys)).run P w = .ok (eqDs ds es) w := by
  intro w Z xs ys ds es hx hy f1 f2
  rw [show (10000 : Nat) = 9998 + 1 + 1 from rfl, run_equalIn_struct w (9998 + 1) t xs ys h1 h2]
  exact eqFields_flat 9998 xs ys _ sh 0 ds es h4 f1 f2 (by simpa using hx) (by simpa using hy)
 refine ⟨?_, ?_, ?_, ⟨_, h1⟩⟩
 ·intro w Z xs ys ds es x y hx hy f1 f2 op hop
  have hE := hE w Z xs ys ds es hx hy f1 f2
  rw [Sem.run_bind, run_eqGuard_agg w op t x y xs ys h3, Result.andThen_ok]
  rcases hop with rfl | rfl
  ·rw [run_eql_struct, hE]; rfl
  ·rw [run_neq_struct, hE]; rfl
 ·intro w ds es f1 f2
  exact hE w (fun _ => True) _ _ ds es (by simpa using fit_DL f1) (by simpa using fit_DL f2) f1 f2
 ·intro w ds em f1
  rw [show (10000 : Nat) = 9998 + 1 + 1 from rfl]
  unfold Instr.checkKey
  simp only [Sem.run_bind, run_underlying h1, Result.andThen_ok, aggV]
  have := checkFields_flat (P := P) (w := w) (Z := fun _ => True) em 9998 (ds.map scV).toArray (P.fieldsOf t).toList sh 0 ds h4 f1 (by simpa using fit_DL f1)
  simp only [← Array.forIn_toList] at this ⊢
  have h9 : (9998 + 1 : Nat) = 9999 := rfl
  rw [h9] at this
  rw [this]
  rfl
end Go.Vs
namespace Go.Vs
def scalarD : D → Bool
 | .sl _ _ => false
 | _ => true
def scalarC : C → Bool
 | .d x => scalarD x
 | _ => false
def scalar (v : SV) : Bool := v.cells.all scalarC
theorem drel_scalar {w w' : World} {Z Z' : Nat → Prop} {d : D} {v : Value} (hd : scalarD d = true) (h : DRel w Z d v) : DRel w' Z' d v := by
 cases d <;> first | (cases hd; done) | exact h
theorem crel_scalar {K K' : Ctx} {β β' : Key → Option Nat} {Z Z' : Nat → Prop} {s s' : St} {a a' : Act} {w w' : World} {c : C} {u : Value} (hc : scalarC c = true) (h : CRel K β Z s a w c u) : CRel K' β' Z' s' a' w' c u := by
 cases c <;> first | (cases hc; done) | exact drel_scalar hc h
section
variable {P : Program} {w : World} {vals : Array Value} {β : Key → Option Nat} {ω : Nat → Option Holder} {Z : Nat → Prop} {args : List SV}
theorem exit_scalar (hent : Rel (ctxOf P 0 w vals β ω Z) β ω Z (entrySt args []) { tmps := #[], defers := [] } w) (hok : args.all argOk = true) {w' : World} {v : Value} {r : CallRes} (hos : w'.os = w.os) (htape : w'.tape = w.tape) (hout : w'.output = w.output)
  (hsize : w.heap.size ≤ w'.heap.size) (hframe : ∀ b, b < w.heap.size → ω b = none → w'.heap[b]? = w.heap[b]?) {K₀ : Ctx} {β₀ : Key → Option Nat} {Z₀ : Nat → Prop} {s₀ : St} {a₀ : Act} {w₀ : World}
  (hv : SVRel (CRel K₀ β₀ Z₀ s₀ a₀ w₀) v r.v) (hsc : scalar r.v = true) (hb : r.boxes = []) (hf : r.frz = []) :
  Rel (ctxOf P 1 w vals β ω Z) (fun _ => none) (fun _ => none) Z (exitSt args r) { tmps := #[v], defers := [] } w' := by
 have hzf : ∀ b, Z b → w'.heap[b]? = w.heap[b]? := fun b hz => hframe b (hent.zin b hz) (by
  cases hω : ω b with
  | none => rfl
  | some g => exact absurd hz (hent.ωok b g hω).1)
 have hkeys := entry_keys hent
 have hboxv : ∀ k, (exitSt args r (.box k)).v = .undef := by
  intro k
  cases k with
  | inb i => simp [exitSt, hb]
  | loc t => rfl
  | esc t i => rfl
 have hargv : ∀ i, (exitSt args r (.arg i)).v = args.getD i .undef := by intro i; simp [exitSt, hf, frzArgs]
 refine ⟨rfl, rfl, hos, htape, hout, hsize, ?_, fun b hz => Nat.lt_of_lt_of_le (hent.zin b hz) hsize, fun _ h => h, fun b hz => .inl hz, ?_, ?_, ?_, ?_, ?_, ?_, ?_⟩
 ·intro b hlt hE
  exact hframe b hlt (by simpa [ctxOf] using hE)
 ·intro t
  cases t with
  | zero => exact SVRel.mono (fun c u hc hr => crel_scalar (List.all_eq_true.1 hsc c hc) hr) hv
  | succ t => trivial
 ·intro i
  rw [hargv]
  refine SVRel.monoI (fun j c u hc hu hr => ?_) (hent.args i)
  have hokc := argOk_get hok hc
  cases c with
  | d x => exact DRel.mono (fun b hz => ⟨hzf b hz, hz⟩) _ _ hr
  | own e xs =>
   by_cases hm : isMap e = true
   ·obtain ⟨b, rfl, h2⟩ := (CRel.own_mp hm).1 hr
    obtain ⟨g1, g2⟩ := hent.argown i j e xs _ b hc hu (mpV_blk ..)
    exact (CRel.own_mp hm).2 ⟨b, rfl, MapAt.mono (fun b hz => ⟨hzf b hz, hz⟩) e xs _ (hframe _ g1 (by simpa [ctxOf] using g2)) h2⟩
   have hm : isMap e = false := by simpa using hm
   obtain ⟨ad, cap, h1, h2, h3, h4⟩ := (CRel.own_sl hm).1 hr
   subst h1
   obtain ⟨g1, g2⟩ := hent.argown i j e xs _ ad.block hc hu rfl
   exact (CRel.own_sl hm).2 ⟨ad, cap, rfl, h2, h3, RowsRel.mono (fun b hz => ⟨hzf b hz, hz⟩) e xs _ _ (hframe _ g1 (by simpa [ctxOf] using g2)) h4⟩
  | ptr k off =>
   obtain ⟨b, g1, _⟩ := hr
   obtain ⟨i, hi, _⟩ := hkeys k b g1
   simp at hi
  | clo f caps =>
   obtain ⟨vs, g1, g2⟩ := hr
   refine ⟨vs, g1, g2.mono_mem fun u p hp ⟨b, q1, _⟩ => ?_⟩
   obtain ⟨i, hi, _⟩ := hkeys p.1 b q1
   simp at hi
  | _ => cases hokc
 ·intro k
  rw [hboxv]
  exact rfl
 ·intro q j e xs u1 b1 hr hc hh hb1
  exfalso
  cases q with
  | tmp t =>
   cases t with
   | zero =>
    have hm : C.own e xs ∈ r.v.cells := List.mem_of_getElem? hc
    have := List.all_eq_true.1 hsc _ hm
    cases this
   | succ t => simp [exitSt, SV.cells] at hc
  | arg i => simp [Res.isArg] at hr
  | box k => rw [hboxv] at hc; simp [SV.cells] at hc
 ·intro i j e xs u1 b1 hc hh hb1
  rw [hargv] at hc
  exact hent.argown i j e xs u1 b1 hc hh hb1
 ·intro b g h; cases h
 ·intro k b h
  obtain ⟨i, hi, _⟩ := hkeys k b h
  simp at hi
end
end Go.Vs
