/- An evaluator of this program's code over plain values, proved sound: part 4. -/
import Derived.Test.YtmoineigflegeaaGreatDoorV3
namespace Go.Ve
open Go.Vs
theorem keysOf_eq : ∀ (cs : List E), keysOf (cEs cs) = keysOfE cs
 | [] => rfl
 | c :: cs => by
  have ih := keysOf_eq cs
  cases c with
  | ptr k off => simp only [cEs, List.map_cons, cE, keysOf, keysOfE] at ih ⊢; rw [ih]
  | clo f caps => simp only [cEs, List.map_cons, cE, keysOf, keysOfE] at ih ⊢; rw [ih]
  | l m t xs => cases m <;> exact ih
  | n m t o => cases m <;> cases o <;> exact ih
  | gone b => cases b <;> exact ih
  | _ => exact ih
theorem flat_eq : ∀ (vs : List SVE), (vs.map cSV).flatMap SV.cells = cEs (vs.flatMap SVE.cells)
 | [] => rfl
 | v :: vs => by simp only [List.map_cons, List.flatMap_cons, flat_eq vs, cells_eq, cEs_append]
theorem data_sim {p : PE E} {q : Prog D} {s : ESt} (hp : Sim s p unDE q) (hx : (p.both s).box (fun x => isData x.1 = true)) : Sim s p cE (q.bind fun d => Prog.ret (C.d d)) := by
 unfold Sim at hp ⊢
 refine Tr.box_mono ?_ (Tr.box_and hp hx)
 rintro ⟨c, s', f, g⟩ ⟨⟨fr, fw, h1, i1, i2⟩, h2⟩
 simp only at h1 h2 i1 i2 ⊢
 refine ⟨fr, fw, ?_, i1, i2⟩
 rw [bothP_bind, h1]
 obtain ⟨d, e⟩ := isData_some h2
 simp only [Prog.both, unDE, e, unD, List.append_nil]
theorem toDE_data (c : E) (s : ESt) : ((toDE c).both s).box (fun x => isData x.1 = true) := by
 have one : ∀ (c : E), ((toD1E c).both s).box (fun x => isData x.1 = true) := by
  intro c
  have lst : ∀ {α : Type} (p : PE α) (d : E), isData d = true → ((p.bind fun _ => PE.ret d).both s).box (fun x => isData x.1 = true) := by
   intro α p d hd
   rw [bothE_bind, Tr.box_bind]
   generalize p.both s = tr
   induction tr with
   | leaf a => exact hd
   | fail => trivial
   | br c t e iht ihe => exact ⟨fun _ => iht, fun _ => ihe⟩
   | call d o k ih => exact fun x _ => ih x
   | sum o k k' ih ih' => exact ⟨fun x _ => ih x, fun x _ => ih' x⟩
  have dat : ∀ {c : E}, isData c = true → toD1E c = PE.ret c → ((toD1E c).both s).box (fun x => isData x.1 = true) := by
   intro c hd he
   rw [he]; exact hd
  cases c with
  | l m t xs =>
   cases m with
   | bor r j hv cv k =>
    simp only [toD1E, PE.both, bindE_eq]
    rw [Tr.box_map]
    cases hcur : (s.get r).hv == hv && (s.get r).cv == cv with
    | false => trivial
    | true => exact lst _ _ rfl
   | data => exact dat rfl rfl
   | own => trivial
  | n m t o =>
   cases m with
   | bor r j hv cv k =>
    simp only [toD1E, PE.both, bindE_eq]
    rw [Tr.box_map]
    cases hcur : (s.get r).hv == hv && (s.get r).cv == cv with
    | false => trivial
    | true => exact lst _ _ rfl
   | data => exact dat rfl rfl
   | own => trivial
  | i => exact dat rfl rfl
  | b => exact dat rfl rfl
  | tt => exact dat rfl rfl
  | ff => exact dat rfl rfl
  | s => exact dat rfl rfl
  | nil => exact dat rfl rfl
  | nul => exact dat rfl rfl
  | _ => trivial
 unfold toDE
 rw [bindE_eq, bothE_bind, Tr.box_bind]
 have same : ∀ c', ((PE.ret c').both s).box fun a => (((toD1E a.1).both a.2.1).map fun y => (y.1, y.2.1, a.2.2.1 ++ y.2.2.1, a.2.2.2 ++ y.2.2.2)).box (fun x => isData x.1 = true) := by
  intro c'
  show (((toD1E c').both s).map _).box _
  rw [Tr.box_map]
  exact one c'
 cases c with
 | n m t o =>
  cases m with
  | bor r j hv cv k =>
   cases r with
   | arg i => exact ⟨fun _ => same _, fun _ => same _⟩
   | _ => exact same _
  | _ => exact same _
 | _ => exact same _
theorem prepE_sim (cfg : Cfg) (c : E) (s : ESt) : Sim s (prepE cfg c) cE (prepC cfg (cE c)) := by
 unfold prepE
 cases c with
 | l m t xs =>
  cases m with
  | bor r j hv cv k =>
   cases r with
   | tmp u =>
    simp only [prep1E, prepC, cE, lC, bind_eq]
    cases hu : cfg.keep u with
    | true => simp only [if_true]; exact Sim.ret rfl
    | false =>
     simp only [Bool.false_eq_true, if_false]
     exact data_sim (toDE_sim (.l (.bor (.tmp u) j hv cv k) t xs) s) (toDE_data _ s)
   | _ => exact Sim.ret rfl
  | _ => exact Sim.ret rfl
 | n m t o =>
  cases m with
  | bor r j hv cv k =>
   cases r with
   | tmp u =>
    simp only [prep1E]
    cases hu : cfg.keep u with
    | true =>
     cases o with
     | none => exact Sim.ret rfl
     | some xs => simp only [prepC, cE, lC, hu, if_true]; exact Sim.ret rfl
    | false =>
     have h := data_sim (toDE_sim (.n (.bor (.tmp u) j hv cv k) t o) s) (toDE_data _ s)
     cases o with
     | none => exact h
     | some xs =>
      simp only [prepC, cE, lC, hu, Bool.false_eq_true, if_false, bind_eq]
      exact h
   | _ => cases o <;> exact Sim.ret rfl
  | _ => cases o <;> exact Sim.ret rfl
 | gone b => cases b <;> exact Sim.ret rfl
 | _ => exact Sim.ret rfl
theorem prepCsE_sim (cfg : Cfg) : ∀ (cs : List E) (s : ESt), Sim s (prepCsE cfg cs) cEs (prepCs cfg (cEs cs))
 | [], s => Sim.ret rfl
 | c :: cs, s => by
  show Sim s (prepCsE cfg (c :: cs)) cEs (prepCs cfg (cE c :: cEs cs))
  simp only [prepCsE, prepCs, bindE_eq, bind_eq]
  exact Sim.bind (prepE_sim cfg c s) fun c' s1 => Sim.bind (prepCsE_sim cfg cs s1) fun cs' s2 => Sim.ret rfl
theorem prepSVE_sim (cfg : Cfg) (v : SVE) (s : ESt) : Sim s (prepSVE cfg v) cSV (prepSV cfg (cSV v)) := by
 cases v with
 | one c =>
  show Sim s (prepSVE cfg (.one c)) cSV (prepSV cfg (.one (cE c)))
  simp only [prepSVE, prepSV, bindE_eq, bind_eq]
  exact Sim.bind (prepE_sim cfg c s) fun c' s1 => Sim.ret rfl
 | agg cs =>
  show Sim s (prepSVE cfg (.agg cs)) cSV (prepSV cfg (.agg (cEs cs)))
  simp only [prepSVE, prepSV, bindE_eq, bind_eq]
  exact Sim.bind (prepCsE_sim cfg cs s) fun c' s1 => Sim.ret rfl
 | _ => exact Sim.fail
theorem prepSVsE_sim (cfg : Cfg) : ∀ (vs : List SVE) (s : ESt), Sim s (prepSVsE cfg vs) (List.map cSV) (prepSVs cfg (vs.map cSV))
 | [], s => Sim.ret rfl
 | v :: vs, s => by
  simp only [List.map_cons, prepSVsE, prepSVs, bindE_eq, bind_eq]
  exact Sim.bind (prepSVE_sim cfg v s) fun c' s1 => Sim.bind (prepSVsE_sim cfg vs s1) fun cs' s2 => Sim.ret rfl
theorem canonE_sim (ks : List Key) (c : E) (s : ESt) : Sim s (canonE ks c) cE (canon ks (cE c)) := by
 cases c with
 | l m t xs =>
  cases m with
  | own => exact Sim.fail
  | data => exact Sim.ret rfl
  | bor r j hv cv k =>
   simp only [canonE, canon, cE, lC]
   refine Sim.get ?_
   simp only [bindE_eq, bind_eq]
   refine Sim.sure fun hs => ?_
   simp only [Bool.and_eq_true, beq_iff_eq] at hs
   rw [need_bind (p := (cRV (s.get r)).hv = hv ∧ (cRV (s.get r)).cv = cv) hs]
   rw [at_eq]
   have own : ∀ (b : Bool), b = ks.all (fun k => !reqb r (.box k)) → Sim s ((sure b).bind fun _ => PE.ret (E.l .own t xs)) cE ((need (∀ k ∈ ks, r ≠ .box k)).bind fun _ => Prog.ret (C.own t.e (xs.map (encR t)))) := by
    intro b hb
    refine Sim.sure fun h => ?_
    rw [need_bind (by
     intro k hk he
     rw [hb] at h
     have := List.all_eq_true.1 h k hk
     rw [(reqb_iff r (.box k)).2 he] at this
     cases this)]
    exact Sim.ret rfl
   cases ha : (s.get r).at j with
   | l m' t' ys =>
    cases m' with
    | own => exact own _ rfl
    | data => exact Sim.ret rfl
    | bor => exact Sim.fail
   | n m' t' o =>
    cases m' with
    | own => exact Sim.call fun x hx => by subst hx; exact own _ rfl
    | data => exact Sim.call fun x hx => by subst hx; exact Sim.ret rfl
    | bor => exact Sim.fail
   | _ => exact Sim.fail
 | n m t o =>
  cases m with
  | bor r j hv cv k =>
   cases o with
   | none =>
    simp only [canonE]
    refine Sim.look ?_
    simp only [bindE_eq]
    refine Sim.sure fun hs => ?_
    cases ha : (s.get r).at j with
    | n m' t' o' =>
     cases m' with
     | own => exact aliveN_sim fun _ => Sim.sure fun _ => Sim.ret rfl
     | data => exact aliveN_sim fun _ => Sim.ret rfl
     | bor => exact Sim.fail
    | _ => exact Sim.fail
   | some xs =>
    simp only [canonE, canon, cE, lC]
    refine Sim.get ?_
    simp only [bindE_eq, bind_eq]
    refine Sim.sure fun hs => ?_
    simp only [Bool.and_eq_true, beq_iff_eq] at hs
    rw [need_bind (p := (cRV (s.get r)).hv = hv ∧ (cRV (s.get r)).cv = cv) hs]
    rw [at_eq]
    cases ha : (s.get r).at j with
    | n m' t' o' =>
     cases m' with
     | own =>
      refine aliveN_sim fun ⟨t2, o2, h1, h2⟩ => ?_
      rw [ha] at h1
      cases o' with
      | none => (rcases h1 with h1 | h1 <;> cases h1); cases h2
      | some ys =>
       refine Sim.sure fun h => ?_
       simp only [cE, lC]
       rw [need_bind (by
        intro k hk he
        have := List.all_eq_true.1 h k hk
        rw [(reqb_iff r (.box k)).2 he] at this
        cases this)]
       exact Sim.ret rfl
     | data =>
      refine aliveN_sim fun ⟨t2, o2, h1, h2⟩ => ?_
      rw [ha] at h1
      cases o' with
      | none => (rcases h1 with h1 | h1 <;> cases h1); cases h2
      | some ys => exact Sim.ret rfl
     | bor => exact Sim.fail
    | _ => exact Sim.fail
  | own => exact Sim.fail
  | data => cases o <;> exact Sim.ret rfl
 | gone b => exact Sim.fail
 | ea => exact Sim.fail
 | da => exact Sim.fail
 | dead => exact Sim.fail
 | _ => exact Sim.ret rfl
theorem canonsE_sim (ks : List Key) : ∀ (cs : List E) (s : ESt), Sim s (canonsE ks cs) cEs (canons ks (cEs cs))
 | [], s => Sim.ret rfl
 | c :: cs, s => by
  show Sim s (canonsE ks (c :: cs)) cEs (canons ks (cE c :: cEs cs))
  simp only [canonsE, canons, bindE_eq, bind_eq]
  exact Sim.bind (canonE_sim ks c s) fun c' s1 => Sim.bind (canonsE_sim ks cs s1) fun cs' s2 => Sim.ret rfl
theorem canonSVE_sim (ks : List Key) (v : SVE) (s : ESt) : Sim s (canonSVE ks v) cSV (canonSV ks (cSV v)) := by
 cases v with
 | one c =>
  show Sim s (canonSVE ks (.one c)) cSV (canonSV ks (.one (cE c)))
  simp only [canonSVE, canonSV, bindE_eq, bind_eq]
  exact Sim.bind (canonE_sim ks c s) fun c' s1 => Sim.ret rfl
 | agg cs =>
  show Sim s (canonSVE ks (.agg cs)) cSV (canonSV ks (.agg (cEs cs)))
  simp only [canonSVE, canonSV, bindE_eq, bind_eq]
  exact Sim.bind (canonsE_sim ks cs s) fun c' s1 => Sim.ret rfl
 | _ => exact Sim.fail
theorem canonSVsE_sim (ks : List Key) : ∀ (vs : List SVE) (s : ESt), Sim s (canonSVsE ks vs) (List.map cSV) (canonSVs ks (vs.map cSV))
 | [], s => Sim.ret rfl
 | v :: vs, s => by
  simp only [List.map_cons, canonSVsE, canonSVs, bindE_eq, bind_eq]
  exact Sim.bind (canonSVE_sim ks v s) fun c' s1 => Sim.bind (canonSVsE_sim ks vs s1) fun cs' s2 => Sim.ret rfl
theorem plain_eq {c : E} (h : plainE c = true) : plain (cE c) = true := by
 cases c with
 | l m t xs => cases m <;> first | rfl | cases h
 | n m t o => cases m <;> cases o <;> first | rfl | cases h
 | _ => first | rfl | cases h
theorem plains_eq {cs : List E} (h : cs.all plainE = true) : (cEs cs).all plain = true := by
 simp only [cEs, List.all_map, List.all_eq_true, Function.comp_apply] at h ⊢
 exact fun c hc => plain_eq (h c hc)
theorem tok_eq {ks : List Key} {c : E} (h : tokE ks c = true) : tok ks (cE c) = true := by
 cases c with
 | ptr k off =>
  simp only [tokE, List.any_eq_true] at h
  obtain ⟨q, hq, e⟩ := h
  rw [keqb_iff] at e
  subst e
  simpa [tok, cE] using hq
 | l m t xs => cases m <;> first | rfl | cases h
 | n m t o => cases m <;> cases o <;> first | rfl | cases h
 | _ => first | rfl | cases h
theorem toks_eq {ks : List Key} {cs : List E} (h : cs.all (tokE ks) = true) : (cEs cs).all (tok ks) = true := by
 simp only [cEs, List.all_map, List.all_eq_true, Function.comp_apply] at h ⊢
 exact fun c hc => tok_eq (h c hc)
theorem cE_tc {ks : List Key} {c : E} (h : tokE ks c = true) : cE (tcE ks c) = tc ks (cE c) := by
 cases c with
 | ptr k off => rfl
 | l m t xs => cases m <;> first | rfl | cases h
 | n m t o => cases m <;> cases o <;> first | rfl | cases h
 | _ => first | rfl | cases h
theorem cEs_tc {ks : List Key} : ∀ {cs : List E}, cs.all (tokE ks) = true → cEs (cs.map (tcE ks)) = (cEs cs).map (tc ks)
 | [], _ => rfl
 | c :: cs, h => by
  rw [List.all_cons, Bool.and_eq_true] at h
  show cE (tcE ks c) :: cEs (cs.map (tcE ks)) = tc ks (cE c) :: (cEs cs).map (tc ks)
  rw [cE_tc h.1, cEs_tc h.2]
theorem bc_tc {ks : List Key} {c : E} (h : tokE ks c = true) : bc ks (cE (tcE ks c)) = cE c := by
 cases c with
 | ptr k off =>
  have hk : k ∈ ks := by
   simp only [tokE, List.any_eq_true] at h
   obtain ⟨q, hq, e⟩ := h
   rw [keqb_iff] at e
   subst e
   exact hq
  obtain ⟨h1, h2⟩ := idx_lt hk
  show C.ptr (ks.getD (idx k ks) default) off = C.ptr k off
  rw [List.getD_eq_getElem?_getD, h2]
  rfl
 | l m t xs => cases m <;> first | rfl | cases h
 | n m t o => cases m <;> cases o <;> first | rfl | cases h
 | _ => first | rfl | cases h
theorem bok_tcE {ks : List Key} {c : E} (h : tokE ks c = true) : bok ks.length (cE (tcE ks c)) = true := by
 rw [cE_tc h]; exact bok_tc (tok_eq h)
theorem plain_bok1 {n : Nat} {c : C} (h : plain c = true) : bok n c = true := by cases c <;> first | rfl | cases h
theorem over_back {ks : List Key} : ∀ {cs : List E} {o : List (Option E)}, cs.all (tokE ks) = true → o.all plainO = true →
  (cEs (overE (cs.map (tcE ks)) o)).map (bc ks) = cEs (overE cs o) ∧ (cEs (overE (cs.map (tcE ks)) o)).all (bok ks.length) = true
 | [], _, _, _ => ⟨rfl, rfl⟩
 | c :: cs, [], h, _ => by
  have hh : ∀ {l : List E}, l.all (tokE ks) = true → (cEs (l.map (tcE ks))).map (bc ks) = cEs l ∧ (cEs (l.map (tcE ks))).all (bok ks.length) = true := by
   intro l
   induction l with
   | nil => intro _; exact ⟨rfl, rfl⟩
   | cons a l ih =>
    intro h
    rw [List.all_cons, Bool.and_eq_true] at h
    obtain ⟨i1, i2⟩ := ih h.2
    refine ⟨?_, ?_⟩
    ·show bc ks (cE (tcE ks a)) :: (cEs (l.map (tcE ks))).map (bc ks) = cE a :: cEs l
     rw [bc_tc h.1, i1]
    ·show (bok ks.length (cE (tcE ks a)) && (cEs (l.map (tcE ks))).all (bok ks.length)) = true
     rw [bok_tcE h.1, i2]; rfl
  exact hh h
 | c :: cs, x :: o, h, g => by
  rw [List.all_cons, Bool.and_eq_true] at h g
  obtain ⟨i1, i2⟩ := over_back h.2 g.2
  cases x with
  | none =>
   refine ⟨?_, ?_⟩
   ·show bc ks (cE (tcE ks c)) :: (cEs (overE (cs.map (tcE ks)) o)).map (bc ks) = cE c :: cEs (overE cs o)
    rw [bc_tc h.1, i1]
   ·show (bok ks.length (cE (tcE ks c)) && (cEs (overE (cs.map (tcE ks)) o)).all (bok ks.length)) = true
    rw [bok_tcE h.1, i2]; rfl
  | some y =>
   have hy : plain (cE y) = true := plain_eq g.1
   refine ⟨?_, ?_⟩
   ·show bc ks (cE y) :: (cEs (overE (cs.map (tcE ks)) o)).map (bc ks) = cE y :: cEs (overE cs o)
    rw [bc_plain1 hy, i1]
   ·show (bok ks.length (cE y) && (cEs (overE (cs.map (tcE ks)) o)).all (bok ks.length)) = true
    rw [plain_bok1 hy, i2]; rfl
theorem getBoxesE_sim (kk : List Key) : ∀ (ks : List Key) (s : ESt), Sim s (getBoxesE kk ks) (List.map cEs) (getBoxes kk ks)
 | [], s => Sim.ret rfl
 | k :: ks, s => by
  simp only [getBoxesE, getBoxes, bindE_eq, bind_eq]
  refine Sim.get ?_
  cases hv : (s.get (.box k)).v with
  | agg cs =>
   simp only [cRV, hv, cSV]
   refine Sim.sure fun h => ?_
   rw [need_bind (toks_eq h)]
   exact Sim.bind (getBoxesE_sim kk ks s) fun r s1 => Sim.ret (by rw [List.map_cons, cEs_tc h])
  | _ => simp only [cRV, hv, cSV]; exact Sim.fail
theorem keysOf_cEs (cs : List E) : keysOf (cEs cs) = keysOfE cs := by
 induction cs with
 | nil => rfl
 | cons c cs ih =>
  cases c with
  | l m t xs => cases m <;> exact ih
  | n m t o => cases m <;> cases o <;> exact ih
  | ptr k off => exact congrArg (k :: ·) ih
  | clo f caps => exact congrArg (caps.map (·.1) ++ ·) ih
  | gone b => cases b <;> exact ih
  | _ => exact ih
theorem boxKeysE_sim : ∀ (ks : List Key) (s : ESt), Sim s (boxKeysE ks) (fun l => l) (boxKeys ks)
 | [], s => Sim.ret rfl
 | k :: ks, s => by
  simp only [boxKeysE, boxKeys, bindE_eq, bind_eq]
  refine Sim.get ?_
  cases hv : (s.get (.box k)).v with
  | agg cs =>
   simp only [cRV, hv, cSV]
   exact Sim.bind (boxKeysE_sim ks s) fun r s1 => Sim.ret (by rw [keysOf_cEs])
  | _ => simp only [cRV, hv, cSV]; exact Sim.fail
theorem putE_bind {α : Type} (r : Res) (x : RVE) (k : Unit → PE α) : (putE r x).bind k = .put r x (k ()) := rfl
theorem putR_bind {α : Type} (r : Res) (x : RV) (k : Unit → Prog α) : (putR r x).bind k = .put r x (k ()) := rfl
def Holds (kk : List Key) (s : ESt) : List Key → List (List E) → Prop
 | [], [] => True
 | k :: ks, b :: bs => (∃ o, (s.get (.box k)).v = .agg o ∧ o.all (tokE kk) = true ∧ b = o.map (tcE kk)) ∧ Holds kk s ks bs
 | _, _ => False
theorem Holds.other {kk : List Key} {s : ESt} {k : Key} {os : List (Option E)} {cs : List E} (h : (s.get (.box k)).v = .agg cs) : ∀ {ks : List Key} {bs : List (List E)}, k ∉ ks → Holds kk s ks bs → Holds kk (s.wr k os) ks bs
 | [], [], _, hh => hh
 | [], _ :: _, _, hh => hh.elim
 | _ :: _, [], _, hh => hh.elim
 | q :: ks, b :: bs, hk, hh => by
  simp only [List.mem_cons, not_or] at hk
  refine ⟨?_, Holds.other h hk.2 hh.2⟩
  rw [get_wr s k os _ h, if_neg (by simpa using Ne.symm hk.1)]
  exact hh.1
theorem getBoxesE_holds (kk : List Key) : ∀ (ks : List Key) (s : ESt), ((getBoxesE kk ks).both s).box fun x => x.2.1 = s ∧ Holds kk s ks x.1
 | [], s => ⟨rfl, trivial⟩
 | k :: ks, s => by
  simp only [getBoxesE, PE.both, Tr.box_map, bindE_eq]
  cases hv : (s.get (.box k)).v with
  | agg cs =>
   cases hp : cs.all (tokE kk) with
   | false => simp only [hp]; exact trivial
   | true =>
    simp only [hp]
    show (((getBoxesE kk ks).bind fun r => PE.ret (cs.map (tcE kk) :: r)).both s).box _
    rw [bothE_bind, Tr.box_bind]
    refine Tr.box_mono ?_ (getBoxesE_holds kk ks s)
    rintro ⟨a, s', f, g⟩ ⟨h1, h2⟩
    simp only at h1 h2
    subst h1
    exact ⟨rfl, ⟨cs, hv, hp, rfl⟩, h2⟩
  | _ => exact trivial
theorem plainE_notPtr {e : E} (h : plainE e = true) {k : Key} {off : Nat} : cE e ≠ .ptr k off := by
 cases e with
 | l m t xs => cases m <;> simp [cE, lC]
 | n m t o => cases o <;> cases m <;> simp [cE, lC]
 | ptr => cases h
 | gone b => cases b <;> simp [cE]
 | _ => simp [cE]
theorem cE_ptr {c : E} {k : Key} {off : Nat} (h : cE c = .ptr k off) : c = .ptr k off := by
 cases c with
 | l m t xs => cases m <;> simp [cE, lC] at h
 | n m t o => cases o <;> cases m <;> simp [cE, lC] at h
 | ptr => simp [cE] at h; obtain ⟨rfl, rfl⟩ := h; rfl
 | gone b => cases b <;> simp [cE] at h
 | _ => simp [cE] at h
theorem keepPtr_same {cs : List E} {o : List (Option E)} (h : o.all plainO = true) : samePtr (.agg (cEs cs)) (cEs (overE cs o)) = keepPtr cs o := by
 cases hk : keepPtr cs o with
 | true =>
  unfold keepPtr at hk
  split at hk
  ·simp [overE, cEs, cE, samePtr]
  ·simp [overE, cEs, cE, samePtr]
  ·cases hk
 | false =>
  cases hs : samePtr (.agg (cEs cs)) (cEs (overE cs o)) with
  | false => rfl
  | true =>
   obtain ⟨k, off, h1, h2⟩ := samePtr_iff hs
   simp only [SV.agg.injEq, cEs] at h1
   cases cs with
   | nil => cases h1
   | cons c cs =>
    simp only [List.map_cons, List.cons.injEq, List.map_eq_nil_iff] at h1
    obtain ⟨h3, rfl⟩ := h1
    obtain rfl := cE_ptr h3
    cases o with
    | nil => cases hk
    | cons x o =>
     cases x with
     | none => cases hk
     | some e =>
      rw [List.all_cons, Bool.and_eq_true] at h
      simp only [overE, cEs, List.map_cons, List.cons.injEq] at h2
      exact absurd h2.1 (plainE_notPtr h.1)
theorem putBoxesE_sim (kk : List Key) : ∀ (ks : List Key) (bs : List (List E)) (os : List (List (Option E))) (s : ESt), ks.length ≤ os.length → ks.Nodup → Holds kk s ks bs → Sim s (putBoxesE kk ks (os.take ks.length)) (fun _ => ()) (putBoxes kk ks (((newBoxes bs os).map cEs).take ks.length))
 | [], [], os, s, _, _, _ => by simp only [List.length_nil, List.take_zero]; exact Sim.ret rfl
 | [], b :: bs, os, s, _, _, h => h.elim
 | k :: ks, [], os, s, _, _, h => h.elim
 | k :: ks, b :: bs, [], s, hl, _, _ => by simp at hl
 | k :: ks, b :: bs, o :: os, s, hl, hn, h => by
  simp only [List.length_cons, List.take_succ_cons, newBoxes, List.map_cons, putBoxesE, putBoxes, bindE_eq, bind_eq]
  obtain ⟨⟨orig, ho, hok, rfl⟩, h2⟩ := h
  refine Sim.get ?_
  rw [ho]
  refine Sim.sure fun hp => ?_
  rw [Bool.and_eq_true] at hp
  obtain ⟨e1, e2⟩ := over_back (ks := kk) hp.1 hp.2
  have hn' := List.nodup_cons.1 hn
  rw [need_bind e2, e1]
  have ev : (cRV (s.get (.box k))).v = .agg (cEs orig) := by simp only [cRV, ho, cSV]
  rw [ev, keepPtr_same hp.2]
  cases keepPtr orig o with
  | true => exact putBoxesE_sim kk ks bs os _ (by simpa using hl) hn'.2 h2
  | false =>
   simp only
   rw [putR_bind]
   exact Sim.wr ho rfl (putBoxesE_sim kk ks bs os _ (by simpa using hl) hn'.2 (Holds.other ho hn'.1 h2))
theorem escapeE_sim (t : Nat) : ∀ (bs : List (List E)) (i : Nat) (s : ESt), Sim s (escapeE t i bs) (fun _ => ()) (escape t i (bs.map cEs))
 | [], i, s => Sim.ret rfl
 | b :: bs, i, s => by
  simp only [List.map_cons, escapeE, escape, bindE_eq, bind_eq]
  refine Sim.get ?_
  cases hv : (s.get (.box (.esc t i))).v with
  | undef =>
   simp only [cRV, hv, cSV]
   refine Sim.sure fun h => ?_
   rw [need_bind (plains_eq h), putE_bind, putR_bind]
   exact Sim.put rfl rfl (escapeE_sim t bs (i + 1) _)
  | _ => simp only [cRV, hv, cSV]; exact Sim.fail
theorem frzOk_eq {args : List SVE} {l : List (Nat × Nat)} (h : frzOkE args l = true) : frzOk (args.map cSV) l = true := by
 simp only [frzOkE, frzOk, List.all_eq_true] at h ⊢
 intro p hp
 have h1 := h p hp
 have e : ((args.map cSV).getD p.1 .undef).cells.getD p.2 .dead = cE ((args.getD p.1 .undef).cells.getD p.2 .dead) := by
  have e1 : (args.map cSV).getD p.1 .undef = cSV (args.getD p.1 .undef) := getD_map cSV args p.1 .undef
  rw [e1, cells_eq]
  exact getD_map cE _ p.2 .dead
 rw [e]
 obtain ⟨d, hd⟩ := isData_some h1
 rw [hd]
theorem backE_sim (ks : List Key) (t : Nat) (c : E) (s : ESt) : Sim s (backE ks t c) cE (back ks t (cE c)) := by
 cases c with
 | l m t xs => cases m <;> first | exact Sim.ret rfl | exact Sim.fail
 | n m t o => cases m <;> cases o <;> first | exact Sim.ret rfl | exact Sim.fail
 | ptr k off => cases k <;> first | exact Sim.ret rfl | exact Sim.fail
 | clo f caps =>
  simp only [backE, back, cE, bindE_eq, bind_eq]
  refine Sim.sure fun h => ?_
  rw [need_bind (by simpa using h)]
  exact Sim.ret rfl
 | ea => exact Sim.fail
 | da => exact Sim.fail
 | dead => exact Sim.fail
 | gone b => exact Sim.fail
 | _ => exact Sim.ret rfl
theorem backsE_sim (ks : List Key) (t : Nat) : ∀ (cs : List E) (s : ESt), Sim s (backsE ks t cs) cEs (backs ks t (cEs cs))
 | [], s => Sim.ret rfl
 | c :: cs, s => by
  show Sim s (backsE ks t (c :: cs)) cEs (backs ks t (cE c :: cEs cs))
  simp only [backsE, backs, bindE_eq, bind_eq]
  exact Sim.bind (backE_sim ks t c s) fun c' s1 => Sim.bind (backsE_sim ks t cs s1) fun cs' s2 => Sim.ret rfl
theorem backTupE_sim (ks : List Key) (t : Nat) : ∀ (vs : List (Bool × List E)) (s : ESt), Sim s (backTupE ks t vs) cTup (backTup ks t (cTup vs))
 | [], s => Sim.ret rfl
 | (b, cs) :: vs, s => by
  show Sim s (backTupE ks t ((b, cs) :: vs)) cTup (backTup ks t ((b, cEs cs) :: cTup vs))
  simp only [backTupE, backTup, bindE_eq, bind_eq]
  exact Sim.bind (backsE_sim ks t cs s) fun c' s1 => Sim.bind (backTupE_sim ks t vs s1) fun cs' s2 => Sim.ret rfl
theorem backSVE_sim (ks : List Key) (t : Nat) (v : SVE) (s : ESt) : Sim s (backSVE ks t v) cSV (backSV ks t (cSV v)) := by
 cases v with
 | one c =>
  show Sim s (backSVE ks t (.one c)) cSV (backSV ks t (.one (cE c)))
  simp only [backSVE, backSV, bindE_eq, bind_eq]
  exact Sim.bind (backE_sim ks t c s) fun c' s1 => Sim.ret rfl
 | agg cs =>
  show Sim s (backSVE ks t (.agg cs)) cSV (backSV ks t (.agg (cEs cs)))
  simp only [backSVE, backSV, bindE_eq, bind_eq]
  exact Sim.bind (backsE_sim ks t cs s) fun c' s1 => Sim.ret rfl
 | tup vs =>
  show Sim s (backSVE ks t (.tup vs)) cSV (backSV ks t (.tup (cTup vs)))
  simp only [backSVE, backSV, bindE_eq, bind_eq]
  exact Sim.bind (backTupE_sim ks t vs s) fun c' s1 => Sim.ret rfl
 | undef => exact Sim.fail
theorem newBoxes_drop {kk : List Key} : ∀ (ks : List Key) (bs : List (List E)) (os : List (List (Option E))) (s : ESt), Holds kk s ks bs → ks.length ≤ os.length → (newBoxes bs os).drop ks.length = (os.drop ks.length).map unS
 | [], [], os, s, _, _ => by simp [newBoxes]
 | [], _ :: _, os, s, h, _ => h.elim
 | _ :: _, [], os, s, h, _ => h.elim
 | k :: ks, b :: bs, [], s, _, hl => by simp at hl
 | k :: ks, b :: bs, o :: os, s, h, hl => by
  simp only [newBoxes, List.length_cons, List.drop_succ_cons]
  exact newBoxes_drop ks bs os s h.2 (by simpa using hl)
theorem newBoxes_length {kk : List Key} : ∀ (ks : List Key) (bs : List (List E)) (os : List (List (Option E))) (s : ESt), Holds kk s ks bs → ks.length ≤ os.length → ks.length ≤ (newBoxes bs os).length
 | [], _, os, s, _, _ => Nat.zero_le _
 | _ :: _, [], os, s, h, _ => h.elim
 | k :: ks, b :: bs, [], s, _, hl => by simp at hl
 | k :: ks, b :: bs, o :: os, s, h, hl => by
  simp only [newBoxes, List.length_cons]
  have := newBoxes_length ks bs os s h.2 (by simpa using hl)
  omega
theorem callE_sim (cfg : ECfg) (f : FuncId) (args : List SVE) (t : Nat) (s : ESt) : Sim s (callE cfg f args t) cSV (callP cfg.c f (args.map cSV) t) := by
 unfold callE callP
 show Sim s _ _ (match (match cfg.con t f with | some K => some K.F | none => none) with | none => Prog.fail | some F => _)
 cases cfg.con t f with
 | none => exact Sim.fail
 | some K =>
  simp only [bindE_eq, bind_eq]
  refine Sim.bind (prepSVsE_sim cfg.c args s) fun vs s1 => ?_
  rw [flat_eq, keysOf_eq]
  refine Sim.bind (boxKeysE_sim _ s1) fun more s1b => ?_
  refine Sim.bind (canonSVsE_sim _ vs s1b) fun cargs s2 => Sim.bind2 (R := fun bs s3 => Holds (dedup (keysOfE (vs.flatMap SVE.cells) ++ more)) s3 (dedup (keysOfE (vs.flatMap SVE.cells) ++ more)) bs) (getBoxesE_sim _ _ s2) (Tr.box_mono (fun x hx => by obtain ⟨h1, h2⟩ := hx; rw [h1]; exact h2) (getBoxesE_holds _ _ s2)) fun bs s3 hb => ?_
  cases hm : K.mat cargs bs with
  | none => exact Sim.fail
  | some x =>
   refine Sim.call fun y hy => ?_
   have hF := K.ok cargs bs x y hm hy
   simp only [hF]
   cases htw : K.two with
   | false =>
    rw [K.one htw y]
    show Sim s3 (afterE K _ cargs t x y true) cSV _
    ·unfold afterE
     simp only [bindE_eq]
     refine Sim.sure fun h => ?_
     simp only [Bool.and_eq_true, Nat.ble_eq] at h
     rw [need_bind (by
      simp only [List.length_map]
      exact ⟨newBoxes_length _ _ _ _ hb h.1, frzOk_eq h.2⟩)]
     rw [← List.map_drop, newBoxes_drop _ _ _ _ hb h.1]
     exact Sim.bind (putBoxesE_sim _ _ bs _ s3 h.1 (dedup_nodup _) hb) fun _ s4 => Sim.bind (escapeE_sim t _ 0 s4) fun _ s5 => backSVE_sim _ t _ s5
   | true =>
    refine Sim.br (fun hfl => ?_) (fun hfl => ?_)
    ·rw [hfl]
     unfold afterE
     simp only [bindE_eq]
     refine Sim.sure fun h => ?_
     simp only [Bool.and_eq_true, Nat.ble_eq] at h
     rw [need_bind (by
      simp only [List.length_map]
      exact ⟨newBoxes_length _ _ _ _ hb h.1, frzOk_eq h.2⟩)]
     rw [← List.map_drop, newBoxes_drop _ _ _ _ hb h.1]
     exact Sim.bind (putBoxesE_sim _ _ bs _ s3 h.1 (dedup_nodup _) hb) fun _ s4 => Sim.bind (escapeE_sim t _ 0 s4) fun _ s5 => backSVE_sim _ t _ s5
    ·rw [hfl]
     unfold afterE
     simp only [bindE_eq]
     refine Sim.sure fun h => ?_
     simp only [Bool.and_eq_true, Nat.ble_eq] at h
     rw [need_bind (by
      simp only [List.length_map]
      exact ⟨newBoxes_length _ _ _ _ hb h.1, frzOk_eq h.2⟩)]
     rw [← List.map_drop, newBoxes_drop _ _ _ _ hb h.1]
     exact Sim.bind (putBoxesE_sim _ _ bs _ s3 h.1 (dedup_nodup _) hb) fun _ s4 => Sim.bind (escapeE_sim t _ 0 s4) fun _ s5 => backSVE_sim _ t _ s5
theorem calleeE_sim (o : Operand) (s : ESt) : Sim s (calleeE o) (fun p => (p.1, p.2.map cSV)) (calleeP o) := by
 have gen : ∀ o, Sim s ((ev1E o).bind fun c => match c with | .clo f caps => PE.ret (f, caps.map fun p => SVE.one (.ptr p.1 p.2)) | _ => .fail) (fun p => (p.1, p.2.map cSV))
   ((ev1 o).bind fun c => match c with | .clo f caps => Prog.ret (f, caps.map fun p => SV.one (.ptr p.1 p.2)) | _ => .fail) := by
  intro o
  refine Sim.bind (ev1E_sim o s) fun c s1 => ?_
  cases c with
  | clo f caps => exact Sim.ret (by simp [cSV, cE])
  | l m t xs => cases m <;> exact Sim.fail
  | n m t o => cases m <;> cases o <;> exact Sim.fail
  | _ => exact Sim.fail
 cases o with
 | func f => exact Sim.ret rfl
 | tmp t => exact gen (.tmp t)
 | const v => exact gen (.const v)
 | global g => exact gen (.global g)
theorem takeStore_eq (cfg : Cfg) (c : E) (r : Res) : takeStoreE cfg c r = takeStore cfg (cE c) r := by
 unfold takeStoreE takeStore
 cases c with
 | l m t xs => cases m <;> rfl
 | n m t o => cases m <;> cases o <;> rfl
 | ptr k off => cases k <;> rfl
 | gone b => cases b <;> rfl
 | _ => rfl
theorem move1E_sim (self : Res × Nat) (u : Operand) (c : E) (s : ESt) : Sim s (move1E self u c) cE (moveCell self u (cE c)) := by
 cases c with
 | l m t xs =>
  cases m with
  | bor r j hv cv k =>
   simp only [move1E, moveCell, cE, lC]
   cases hu : takeMove u r with
   | true => exact stashE_sim (some self) (takeMove u) (.l (.bor r j hv cv k) t xs) s
   | false => exact Sim.ret rfl
  | _ => exact Sim.ret rfl
 | n m t o =>
  cases m with
  | bor r j hv cv k =>
   simp only [move1E]
   cases hu : takeMove u r with
   | true =>
    cases o with
    | none => exact stashE_sim (some self) (takeMove u) (.n (.bor r j hv cv k) t none) s
    | some xs =>
     refine Sim.eqP (stashE_sim (some self) (takeMove u) (.n (.bor r j hv cv k) t (some xs)) s) ?_
     simp only [moveCell, cE, lC, hu, if_true]
   | false =>
    cases o with
    | none => exact Sim.ret rfl
    | some xs =>
     refine Sim.eqP (Sim.ret rfl) ?_
     show (if takeMove u r = true then _ else _) = _
     rw [if_neg (by simp [hu])]
     rfl
  | _ => cases o <;> exact Sim.ret rfl
 | gone b => cases b <;> exact Sim.ret rfl
 | _ => exact Sim.ret rfl
theorem moveCellsE_sim (r : Res) (u : Operand) : ∀ (cs : List E) (i : Nat) (s : ESt), Sim s (moveCellsE r u i cs) cEs (moveCells r u i (cEs cs))
 | [], i, s => Sim.ret rfl
 | c :: cs, i, s => by
  show Sim s (moveCellsE r u i (c :: cs)) cEs (moveCells r u i (cE c :: cEs cs))
  simp only [moveCellsE, moveCells, bindE_eq, bind_eq]
  exact Sim.bind (move1E_sim _ u c s) fun c' s1 => Sim.bind (moveCellsE_sim r u cs (i + 1) s1) fun cs' s2 => Sim.ret rfl
theorem moveTupE_sim (r : Res) (u : Operand) : ∀ (vs : List (Bool × List E)) (i : Nat) (s : ESt), Sim s (moveTupE r u i vs) cTup (moveTup r u i (cTup vs))
 | [], i, s => Sim.ret rfl
 | (b, cs) :: vs, i, s => by
  show Sim s (moveTupE r u i ((b, cs) :: vs)) cTup (moveTup r u i ((b, cEs cs) :: cTup vs))
  simp only [moveTupE, moveTup, bindE_eq, bind_eq, cEs_length]
  exact Sim.bind (moveCellsE_sim r u cs i s) fun c' s1 => Sim.bind (moveTupE_sim r u vs _ s1) fun cs' s2 => Sim.ret rfl
theorem moveSVE_sim (r : Res) (u : Operand) (v : SVE) (s : ESt) : Sim s (moveSVE r u v) cSV (moveSV r u (cSV v)) := by
 cases v with
 | one c =>
  show Sim s (moveSVE r u (.one c)) cSV (moveSV r u (.one (cE c)))
  simp only [moveSVE, moveSV, bindE_eq, bind_eq]
  exact Sim.bind (move1E_sim _ u c s) fun c' s1 => Sim.ret rfl
 | agg cs =>
  show Sim s (moveSVE r u (.agg cs)) cSV (moveSV r u (.agg (cEs cs)))
  simp only [moveSVE, moveSV, bindE_eq, bind_eq]
  exact Sim.bind (moveCellsE_sim r u cs 0 s) fun c' s1 => Sim.ret rfl
 | tup vs =>
  show Sim s (moveSVE r u (.tup vs)) cSV (moveSV r u (.tup (cTup vs)))
  simp only [moveSVE, moveSV, bindE_eq, bind_eq]
  exact Sim.bind (moveTupE_sim r u vs 0 s) fun c' s1 => Sim.ret rfl
 | undef => exact Sim.fail
theorem evOptE_sim (o : Option Operand) (s : ESt) : Sim s (evOptE o) (fun x => x) (evOpt o) := by
 cases o with
 | none => exact Sim.ret rfl
 | some o =>
  simp only [evOptE, evOpt, bindE_eq, bind_eq]
  exact Sim.bind (ev1E_sim o s) fun c s1 => Sim.bind (cIntE_sim c s1) fun n s2 => Sim.ret rfl
theorem minmaxE_sim (b : Bool) (vs : List SVE) (s : ESt) : Sim s (minmaxE b vs) cSV (minmax b (vs.map cSV)) := by
 unfold minmaxE
 split
 ·cases b <;> exact Sim.ret rfl
 ·exact Sim.fail
theorem isPtrs_eq : ∀ {vs : List SVE} {l : List (Key × Nat)}, isPtrs vs = some l → (vs.map cSV).mapM (fun v => match v with | .one (.ptr k o) => some (k, o) | _ => none) = some l
 | [], l, h => by cases h; rfl
 | v :: r, l, h => by
  unfold isPtrs at h
  split at h
  ·rename_i p l' h1 h2
   cases h
   have ih := isPtrs_eq h2
   rw [List.map_cons, List.mapM_cons, ih]
   unfold isPtr at h1
   split at h1
   ·cases h1; rfl
   ·cases h1
  ·cases h
end Go.Ve
namespace Go.Ve
open Go.Vs
theorem eqDs_append : ∀ {a c : List D} (b d : List D), a.length = c.length → eqDs (a ++ b) (c ++ d) = (eqDs a c && eqDs b d)
 | [], [], b, d, _ => by simp [eqDs]
 | x :: a, y :: c, b, d, h => by simp [eqDs, eqDs_append b d (by simpa using h), Bool.and_assoc]
 | [], _ :: _, _, _, h => by simp at h
 | _ :: _, [], _, _, h => by simp at h
theorem fitSc_append : ∀ {s t : List Sc} {a b : List D}, fitSc s a = true → fitSc t b = true → fitSc (s ++ t) (a ++ b) = true
 | [], _, [], _, _, h => h
 | k :: s, t, x :: a, b, h1, h2 => by
  cases k <;> cases x <;> simp only [fitSc, Bool.and_eq_true, Bool.false_eq_true] at h1
  ·simp only [List.cons_append, fitSc, Bool.and_eq_true]; exact ⟨h1.1, fitSc_append h1.2 h2⟩
  ·simp only [List.cons_append, fitSc]; exact fitSc_append h1 h2
  ·simp only [List.cons_append, fitSc]; exact fitSc_append h1 h2
 | [], _, _ :: _, _, h, _ => by cases h
 | k :: _, _, [], _, h, _ => by cases k <;> cases h
theorem scOf_fit : ∀ {k : Ty} {sh : List Sc} (x : k.T), scOf k = some sh → fitSc sh (encR k x) = true
 | .int k, sh, x, h => by cases h; simp [encR, fitSc]
 | .bool, sh, x, h => by cases h; rfl
 | .str, sh, x, h => by cases h; rfl
 | .pair a b, sh, x, h => by
  simp only [scOf] at h
  split at h
  ·rename_i s t h1 h2
   cases h
   exact fitSc_append (scOf_fit x.1 h1) (scOf_fit x.2 h2)
  ·cases h
 | .sl _, _, _, h => by cases h
 | .ent _ _ _, _, _, h => by cases h
 | .set _, _, _, h => by cases h
theorem eqT_eq : ∀ {k : Ty} {sh : List Sc} (x y : k.T), scOf k = some sh → eqDs (encR k x) (encR k y) = eqT k x y
 | .int k, sh, x, y, h => by simp [encR, eqDs, eqD, eqT]
 | .bool, sh, x, y, h => by simp [encR, eqDs, eqD, eqT]
 | .str, sh, x, y, h => by simp [encR, eqDs, eqD, eqT]
 | .pair a b, sh, x, y, h => by
  simp only [scOf] at h
  split at h
  ·rename_i s t h1 h2
   simp only [encR, eqT, eqDs_append _ _ (by rw [encR_length, encR_length] : (encR a x.1).length = (encR a y.1).length), eqT_eq x.1 y.1 h1, eqT_eq x.2 y.2 h2]
  ·cases h
 | .sl _, _, _, _, h => by cases h
 | .ent _ _ _, _, _, _, h => by cases h
 | .set _, _, _, _, h => by cases h
theorem ltDs_append : ∀ {a c : List D} (b d : List D), a.length = c.length → ltDs (a ++ b) (c ++ d) = (ltDs a c || (eqDs a c && ltDs b d))
 | [], [], b, d, _ => by simp [ltDs, eqDs]
 | x :: a, y :: c, b, d, h => by
  simp only [List.cons_append, ltDs, eqDs, ltDs_append b d (by simpa using h : a.length = c.length)]
  cases ltD x y <;> cases eqD x y <;> cases ltDs a c <;> cases eqDs a c <;> rfl
 | [], _ :: _, _, _, h => by simp at h
 | _ :: _, [], _, _, h => by simp at h
theorem ltDs_one (a b : D) : ltDs [a] [b] = ltD a b := by simp [ltDs]
theorem ltT_eq : ∀ {k : Ty} {sh : List Sc} (x y : k.T), scOf k = some sh → ltDs (encR k x) (encR k y) = ltT k x y
 | .int k, sh, x, y, h => by simp [encR, ltDs_one, ltD, ltT]
 | .bool, sh, x, y, h => by simp [encR, ltDs_one, ltD, ltT]
 | .str, sh, x, y, h => by simp [encR, ltDs_one, ltD, ltT]
 | .pair a b, sh, x, y, h => by
  simp only [scOf] at h
  split at h
  ·rename_i s t h1 h2
   simp only [encR, ltT, ltDs_append _ _ (by rw [encR_length, encR_length] : (encR a x.1).length = (encR a y.1).length), ltT_eq x.1 y.1 h1, ltT_eq x.2 y.2 h2, eqT_eq x.1 y.1 h1]
  ·cases h
 | .sl _, _, _, _, h => by cases h
 | .ent _ _ _, _, _, _, h => by cases h
 | .set _, _, _, _, h => by cases h
section
variable {u : Bool} {k v : Ty} {sh : List Sc} (hk : scOf k = some sh)
theorem take_ent (r : (Ty.ent u k v).T) : (encR (.ent u k v) r).take k.w = encR k r.1 := by
 show (encR k r.1 ++ encR v r.2).take k.w = _
 rw [List.take_append_of_le_length (by rw [encR_length]; exact Nat.le_refl _), List.take_of_length_le (by rw [encR_length]; exact Nat.le_refl _)]
theorem drop_ent (r : (Ty.ent u k v).T) : (encR (.ent u k v) r).drop k.w = encR v r.2 := by
 show (encR k r.1 ++ encR v r.2).drop k.w = _
 rw [List.drop_append_of_le_length (by rw [encR_length]; exact Nat.le_refl _), List.drop_of_length_le (by rw [encR_length]; exact Nat.le_refl _), List.nil_append]
include hk in
theorem keysFit_ent (xs : List (Ty.ent u k v).T) : keysFit sh k.w (xs.map (encR (.ent u k v))) = true := by
 unfold keysFit
 rw [List.all_eq_true]
 intro y hy
 obtain ⟨r, _, rfl⟩ := List.mem_map.1 hy
 rw [take_ent]
 exact scOf_fit _ hk
include hk in
theorem findRow_ent (x : k.T) : ∀ (xs : List (Ty.ent u k v).T), (findRow k.w (encR k x) (xs.map (encR (.ent u k v))) = none ∧ mfind k x xs = none ∧ mplace k x xs = xs.length ∧ (∀ z, madd k x z xs = xs ++ [(x, z)]) ∧ ∀ y, mput k x y xs = xs ++ [(x, y)]) ∨
  ∃ i r, findRow k.w (encR k x) (xs.map (encR (.ent u k v))) = some i ∧ xs[i]? = some r ∧ mfind k x xs = some r.2 ∧ mplace k x xs = i ∧ (∀ z, madd k x z xs = xs) ∧ ∀ y, mput k x y xs = xs.set i (x, y)
 | [] => .inl ⟨rfl, rfl, rfl, fun _ => rfl, fun _ => rfl⟩
 | r :: xs => by
  have e : eqDs (encR k x) ((encR (.ent u k v) r).take k.w) = eqT k x r.1 := by rw [take_ent, eqT_eq x r.1 hk]
  simp only [List.map_cons, findRow, e, mfind, mplace, madd, mput]
  cases hq : eqT k x r.1 with
  | true => exact .inr ⟨0, r, by simp, rfl, rfl, rfl, fun _ => rfl, fun _ => rfl⟩
  | false =>
   simp only [Bool.false_eq_true, if_false]
   rcases findRow_ent x xs with ⟨h1, h2, h3, h4, h5⟩ | ⟨i, r', h1, h2, h3, h4, h5, h6⟩
   ·exact .inl ⟨by rw [h1]; rfl, h2, by rw [h3]; rfl, fun z => by rw [h4]; rfl, fun y => by rw [h5]; rfl⟩
   ·exact .inr ⟨i + 1, r', by rw [h1]; rfl, by simpa using h2, h3, by rw [h4], fun z => by rw [h5], fun y => by rw [h6]; rfl⟩
include hk in
theorem insAt_ent (x : k.T) (y : v.T) : ∀ (xs : List (Ty.ent u k v).T), insAt k.w (encR k x) (encR k x ++ encR v y) (xs.map (encR (.ent u k v))) = (mins k x y xs).map (encR (.ent u k v))
 | [] => rfl
 | r :: xs => by
  have e : ltDs (encR k x) ((encR (.ent u k v) r).take k.w) = ltT k x r.1 := by rw [take_ent, ltT_eq x r.1 hk]
  simp only [List.map_cons, insAt, e, mins]
  cases hq : ltT k x r.1 with
  | true => rfl
  | false =>
   simp only [Bool.false_eq_true, if_false, List.map_cons]
   rw [insAt_ent x y xs]
include hk in
theorem keysFit_set (xs : List (Ty.set k).T) : keysFit sh k.w (xs.map (encR (.set k))) = true := by
 unfold keysFit
 rw [List.all_eq_true]
 intro y hy
 obtain ⟨r, _, rfl⟩ := List.mem_map.1 hy
 have : (encR (.set k) r).take k.w = encR k r := List.take_of_length_le (by rw [show (encR (.set k) r).length = k.w from encR_length k r]; exact Nat.le_refl _)
 rw [this]
 exact scOf_fit _ hk
include hk in
theorem findRow_set (x : k.T) : ∀ (xs : List (Ty.set k).T), (findRow k.w (encR k x) (xs.map (encR (.set k))) = none ∧ sfind k x xs = false ∧ sput k x xs = xs ++ [x]) ∨
  ∃ i r, findRow k.w (encR k x) (xs.map (encR (.set k))) = some i ∧ xs[i]? = some r ∧ sfind k x xs = true ∧ sput k x xs = xs.set i x
 | [] => .inl ⟨rfl, rfl, rfl⟩
 | r :: xs => by
  have e : eqDs (encR k x) ((encR (.set k) r).take k.w) = eqT k x r := by
   have : (encR (.set k) r).take k.w = encR k r := List.take_of_length_le (by rw [show (encR (.set k) r).length = k.w from encR_length k r]; exact Nat.le_refl _)
   rw [this, eqT_eq x r hk]
  simp only [List.map_cons, findRow, e, sfind, sput]
  cases hq : eqT k x r with
  | true => exact .inr ⟨0, r, by simp, rfl, rfl, rfl⟩
  | false =>
   simp only [Bool.false_eq_true, if_false]
   rcases findRow_set x xs with ⟨h1, h2, h3⟩ | ⟨i, r', h1, h2, h3, h4⟩
   ·exact .inl ⟨by rw [h1]; rfl, h2, by rw [h3]; rfl⟩
   ·exact .inr ⟨i + 1, r', by rw [h1]; rfl, by simpa using h2, h3, by rw [h4]; rfl⟩
end
theorem mapOk_iff {sh : List Sc} {ki ei : TI} {k v : Ty} {vw : Nat} {va : Bool} (h : mapOk sh ki ei k v vw va = true) : scOf k = some sh ∧ k.w = ki.size ∧ k.agg = ki.kind.agg ∧ vw = ei.size ∧ va = ei.kind.agg := by
 unfold mapOk at h
 simp only [Bool.and_eq_true, beq_iff_eq] at h
 obtain ⟨⟨⟨⟨h1, h2⟩, h3⟩, h4⟩, h5⟩ := h
 refine ⟨?_, h2, h3, h4, h5⟩
 split at h1
 ·rename_i sh' hs; rw [hs, of_decide_eq_true h1]
 ·cases h1
theorem isAgg_eq (v : SVE) : (cSV v).isAgg = v.isAgg := by cases v <;> rfl
theorem datas_map : ∀ (ds : List D), datas (ds.map .d) = some ds
 | [] => rfl
 | d :: ds => by simp [datas, datas_map ds]
theorem keyE_eq {k : Ty} {kv : SVE} {x : k.T} (h : keyE k kv = some x) : (cSV kv).key = some (encR k x) ∧ kv.isAgg = k.agg := by
 unfold keyE at h
 split at h
 ·rename_i cs h1 h2
  refine ⟨?_, by simpa using h1⟩
  unfold SV.key
  rw [asCells_eq, h2]
  simp only [Option.map_some]
  rw [rowT_eq h, datas_map]
 ·cases h
theorem read1E_sim (t : Ty) {e : Nat} (he : t.e = e ∨ t.e = unE e) (r : Res) (j hv cv k : Nat) (xs : List t.T) (s : ESt) : Sim s (read1E t r j hv) (List.map (encR t)) (mapRows e (cE (.l (.bor r j hv cv k) t xs))) := by
 unfold read1E
 simp only [mapRows, cE, lC]
 refine Sim.get ?_
 simp only [bind_eq]
 refine Sim.sure fun hs => ?_
 rw [need_bind (show (cRV (s.get r)).hv = hv ∧ (t.e = e ∨ t.e = unE e) from ⟨(by simpa using hs : (s.get r).hv = hv), he⟩)]
 rw [at_eq]
 cases ha : (s.get r).at j with
 | l m t2 ys =>
  cases m with
  | bor => exact Sim.fail
  | _ =>
   dsimp only
   split
   ·rename_i h; subst h; exact Sim.ret rfl
   ·exact Sim.fail
 | n m t2 o =>
  cases m with
  | bor => exact Sim.fail
  | _ =>
   dsimp only
   split
   ·rename_i h; subst h; exact Sim.call fun ys hy => by subst hy; exact Sim.ret rfl
   ·exact Sim.fail
 | _ => exact Sim.fail
theorem mapRowsE_sim (t : Ty) {e : Nat} (he : t.e = e ∨ t.e = unE e) (c : E) (s : ESt) : Sim s (mapRowsE t c) (List.map (encR t)) (mapRows e (cE c)) := by
 cases c with
 | nul kk => cases kk <;> first | exact Sim.ret rfl | exact Sim.fail
 | l m t' xs =>
  cases m with
  | own => exact Sim.fail
  | data =>
   simp only [mapRowsE]
   split
   ·rename_i h
    subst h
    simp only [mapRows, cE, lC, bind_eq]
    rw [need_bind he]
    exact Sim.ret rfl
   ·exact Sim.fail
  | bor r j hv cv k =>
   simp only [mapRowsE]
   split
   ·rename_i h
    subst h
    exact read1E_sim t' he r j hv cv k xs s
   ·exact Sim.fail
 | n m t' o =>
  cases m with
  | own => exact Sim.fail
  | data =>
   simp only [mapRowsE]
   split
   ·rename_i h
    subst h
    refine Sim.call fun xs hx => ?_
    subst hx
    simp only [mapRows, cE, lC, bind_eq]
    rw [need_bind he]
    exact Sim.ret rfl
   ·exact Sim.fail
  | bor r j hv cv k =>
   simp only [mapRowsE]
   split
   ·rename_i h
    subst h
    refine Sim.call fun xs hx => ?_
    subst hx
    exact read1E_sim t' he r j hv cv k xs s
   ·exact Sim.fail
 | _ => exact Sim.fail
theorem mcode_ent {ki ei : TI} {k v : Ty} (h1 : k.w = ki.size) (h2 : k.agg = ki.kind.agg) (h3 : v.w = ei.size) (h4 : v.agg = ei.kind.agg) : mcode ki ei = (Ty.ent false k v).e := by
 simp only [mcode, Ty.e, h1, h2, h3, h4]
theorem mcode_entU {ki ei : TI} {k v : Ty} (u : Bool) (h1 : k.w = ki.size) (h2 : k.agg = ki.kind.agg) (h3 : v.w = ei.size) (h4 : v.agg = ei.kind.agg) : (Ty.ent u k v).e = mcode ki ei ∨ (Ty.ent u k v).e = unE (mcode ki ei) := by
 cases u
 ·exact .inl (mcode_ent h1 h2 h3 h4).symm
 ·exact .inr (by simp only [mcode, Ty.e, h1, h2, h3, h4])
theorem mcode_set {ki ei : TI} {k : Ty} (h1 : k.w = ki.size) (h2 : k.agg = ki.kind.agg) (h3 : 0 = ei.size) (h4 : true = ei.kind.agg) : mcode ki ei = (Ty.set k).e := by
 simp only [mcode, Ty.e, h1, h2, ← h3, ← h4]
theorem mapT_small {cfg : Cfg} {t kt : TypeId} {ki ei : TI} (h : mapT cfg t = some (kt, ki, ei)) : ki.size < 32768 ∧ ei.size < 32768 := by
 unfold mapT at h
 split at h
 ·split at h
  ·split at h
   ·rename_i hb; cases h; exact hb
   ·cases h
  ·cases h
 ·cases h
theorem isUn_ent {cfg : Cfg} {t kt : TypeId} {ki ei : TI} (hm : mapT cfg t = some (kt, ki, ei)) {u : Bool} {k v : Ty} (h1 : k.w = ki.size) (h2 : k.agg = ki.kind.agg) (h3 : v.w = ei.size) (h4 : v.agg = ei.kind.agg) : isUn (Ty.ent u k v).e = u := by
 obtain ⟨b1, b2⟩ := mapT_small hm
 have hl := mode_lt b1 b2
 cases u
 ·rw [← mcode_ent h1 h2 h3 h4]; exact mode_un b1 b2
 ·have e : (Ty.ent true k v).e = unE (mcode ki ei) := by simp only [mcode, Ty.e, h1, h2, h3, h4]
  rw [e]
  unfold isUn isIt unE
  rw [Bool.and_eq_true]
  refine ⟨Nat.ble_eq_true_of_le (by omega), ?_⟩
  cases hh : Nat.ble 1099511627776 (mcode ki ei + 549755813888)
  ·rfl
  ·have := Nat.le_of_ble_eq_true hh; omega
theorem isUn_set {cfg : Cfg} {t kt : TypeId} {ki ei : TI} (hm : mapT cfg t = some (kt, ki, ei)) {k : Ty} (h1 : k.w = ki.size) (h2 : k.agg = ki.kind.agg) (h3 : 0 = ei.size) (h4 : true = ei.kind.agg) : isUn (Ty.set k).e = false := by
 obtain ⟨b1, b2⟩ := mapT_small hm
 rw [← mcode_set h1 h2 h3 h4]; exact mode_un b1 b2
theorem valE_sim (v : Ty) (y : v.T) (s : ESt) (g : Bool) (hg : v.agg = g) : Sim s (valE v y) cSV (entV g (encR v y)) := by
 unfold valE entV
 have hc := cells_enc v y
 subst hg
 cases v.agg with
 | true => exact Sim.ret (by simp only [cSV, hc])
 | false =>
  dsimp only
  split
  ·rename_i c hcc
   rw [hcc] at hc
   match hy : encR v y, hc with
   | [d], hc =>
    simp only [cEs, List.map_cons, List.map_nil, List.cons.injEq, and_true] at hc
    exact Sim.ret (by simp only [cSV, hc])
   | [], hc => simp [cEs] at hc
   | _ :: _ :: _, hc => simp [cEs] at hc
  ·exact Sim.fail
theorem lookupE_sim (cfg : ECfg) (t : TypeId) (c : E) (kv : SVE) (ok : Bool) (s : ESt) : Sim s (lookupE cfg t c kv ok) cSV (lookupP cfg.c t (cE c) (cSV kv) ok) := by
 unfold lookupE
 split
 ·rename_i kt ki ei hm
  split
  ·rename_i sh z u k v hsc hz hR
   split
   ·rename_i x hx
    simp only [bindE_eq]
    refine Sim.sure fun h => ?_
    simp only [Bool.and_eq_true] at h
    obtain ⟨⟨h1, h2⟩, h3⟩ := h
    obtain ⟨hk, g1, g2, g3, g4⟩ := mapOk_iff h1
    have hzv := zeroIs_eq h2
    obtain ⟨q1, q2⟩ := keyE_eq hx
    simp only [lookupP, hm, hsc, hz, q1, bind_eq]
    rw [need_bind ⟨scOf_fit x hk, by rw [encR_length, g1], by rw [isAgg_eq, q2, g2], by rw [hzv, encR_length, g3], by
     rw [← g3, ← g4]; simpa using h3⟩]
    refine Sim.bind (mapRowsE_sim (.ent u k v) (mcode_entU u g1 g2 g3 g4) c s) fun xs s1 => ?_
    rw [need_bind (by rw [← g1]; exact keysFit_ent hk xs), ← g1, ← g4]
    have hrow : rowOr k.w (xs.map (encR (.ent u k v))) z (findRow k.w (encR k x) (xs.map (encR (.ent u k v)))) = encR v ((mfind k x xs).getD v.zero) ∧ (findRow k.w (encR k x) (xs.map (encR (.ent u k v)))).isSome = (mfind k x xs).isSome := by
     rcases findRow_ent hk x xs with ⟨e1, e2, _⟩ | ⟨i, r, e1, e2, e3, _⟩
     ·rw [e1, e2]; exact ⟨hzv, rfl⟩
     ·rw [e1, e3]
      refine ⟨?_, rfl⟩
      simp only [rowOr, List.getD_eq_getElem?_getD, List.getElem?_map, e2, Option.map_some, Option.getD_some]
      exact drop_ent r
    rw [hrow.1, hrow.2]
    cases ok with
    | true =>
     refine Sim.ret ?_
     show _ = SV.tup [(v.agg, cEs (cellsT v ((mfind k x xs).getD v.zero))), (false, [C.d (.bool (mfind k x xs).isSome)])]
     rw [cells_enc]
    | false => exact valE_sim v _ s1 _ rfl
   ·exact Sim.fail
  ·rename_i sh k hsc hz hR
   split
   ·rename_i x hx
    simp only [bindE_eq]
    refine Sim.sure fun h1 => ?_
    obtain ⟨hk, g1, g2, g3, g4⟩ := mapOk_iff h1
    obtain ⟨q1, q2⟩ := keyE_eq hx
    simp only [lookupP, hm, hsc, hz, q1, bind_eq]
    rw [need_bind ⟨scOf_fit x hk, by rw [encR_length, g1], by rw [isAgg_eq, q2, g2], g3, .inl g4.symm⟩]
    refine Sim.bind (mapRowsE_sim (.set k) (.inl (mcode_set g1 g2 g3 g4).symm) c s) fun xs s1 => ?_
    rw [need_bind (by rw [← g1]; exact keysFit_set hk xs), ← g1, ← g4]
    have hrow : rowOr k.w (xs.map (encR (.set k))) [] (findRow k.w (encR k x) (xs.map (encR (.set k)))) = [] ∧ (findRow k.w (encR k x) (xs.map (encR (.set k)))).isSome = sfind k x xs := by
     rcases findRow_set hk x xs with ⟨e1, e2, _⟩ | ⟨i, r, e1, e2, e3, _⟩
     ·rw [e1, e2]; exact ⟨rfl, rfl⟩
     ·rw [e1, e3]
      refine ⟨?_, rfl⟩
      simp only [rowOr, List.getD_eq_getElem?_getD, List.getElem?_map, e2, Option.map_some, Option.getD_some]
      exact List.drop_of_length_le (by rw [show (encR (.set k) r).length = k.w from encR_length k r]; exact Nat.le_refl _)
    rw [hrow.1, hrow.2]
    cases ok with
    | true => exact Sim.ret rfl
    | false => exact Sim.ret rfl
   ·exact Sim.fail
  ·exact Sim.fail
 ·exact Sim.fail
theorem change1E_sim {α β : Type} (t : Ty) (r : Res) (j hv : Nat) (cond : Option (List t.T → Bool)) (F : List t.T → List t.T) (out : List t.T → α) (f : α → β) (s : ESt) (p : Nat → Prop) [DecidablePred p] {e0 : Nat} (he : p e0) (q : RV → Nat → List (List D) → Prog β)
  (hq : ∀ (x : RV) (ys : List t.T), (∀ c, cond = some c → c ys = true) → q x t.e (ys.map (encR t)) = (putR r { x with cv := x.cv + 1, v := x.v.setCell j (.own t.e ((F ys).map (encR t))) }).bind fun _ => .ret (f (out ys))) :
  Sim s (change1E t r j hv cond F out) f (.get r fun x => (need (x.hv = hv ∧ r.isArg = false ∧ p e0)).bind fun _ => match x.at j with
   | .own e' ys => q x e' ys
   | _ => .fail) := by
 unfold change1E
 refine Sim.get ?_
 refine Sim.sure fun hs => ?_
 simp only [Bool.and_eq_true, beq_iff_eq, Bool.not_eq_true'] at hs
 rw [need_bind (show (cRV (s.get r)).hv = hv ∧ r.isArg = false ∧ p e0 from ⟨hs.1, hs.2, he⟩)]
 rw [at_eq]
 have fin : ∀ (ys : List t.T), Sim s (put1E t r j (s.get r) cond F out ys) f (q (cRV (s.get r)) t.e (ys.map (encR t))) := by
  intro ys
  have put : (∀ c, cond = some c → c ys = true) → Sim s ((putE r { (s.get r) with cv := (s.get r).cv + 1, v := (s.get r).v.setCell j (.l .own t (F ys)) }).bind fun _ => .ret (out ys)) f (q (cRV (s.get r)) t.e (ys.map (encR t))) := by
   intro hc
   rw [hq _ ys hc]
   refine Sim.put hs.2 ?_ (Sim.ret rfl)
   simp only [cRV, setCell_eq, cE, lC]
  unfold put1E
  cases cond with
  | none => exact put fun c h => by cases h
  | some c => exact Sim.ask fun h => put fun c' h' => by cases h'; exact h
 cases ha : (s.get r).at j with
 | l m t2 ys =>
  cases m with
  | own =>
   dsimp only
   split
   ·rename_i h; subst h; exact fin ys
   ·exact Sim.fail
  | _ => exact Sim.fail
 | n m t2 o =>
  cases m with
  | own =>
   dsimp only
   split
   ·rename_i h; subst h; exact Sim.call fun ys hy => by subst hy; exact fin ys
   ·exact Sim.fail
  | _ => exact Sim.fail
 | _ => exact Sim.fail
theorem changeE_sim {α β : Type} (t : Ty) (c : E) (cond : Option (List t.T → Bool)) (F : List t.T → List t.T) (out : List t.T → α) (f : α → β) (s : ESt) (p : Nat → Prop) [DecidablePred p] (he : p t.e) (q : Res → Nat → RV → Nat → List (List D) → Prog β)
  (hq : ∀ (r : Res) (j : Nat) (x : RV) (ys : List t.T), (∀ c, cond = some c → c ys = true) → q r j x t.e (ys.map (encR t)) = (putR r { x with cv := x.cv + 1, v := x.v.setCell j (.own t.e ((F ys).map (encR t))) }).bind fun _ => .ret (f (out ys))) :
  Sim s (changeE t c cond F out) f (match cE c with
   | .bor r j hv _ e _ _ => .get r fun x => (need (x.hv = hv ∧ r.isArg = false ∧ p e)).bind fun _ => match x.at j with
    | .own e' ys => q r j x e' ys
    | _ => .fail
   | _ => .fail) := by
 cases c with
 | l m t' xs =>
  cases m with
  | bor r j hv cv k =>
   simp only [changeE]
   split
   ·rename_i h
    subst h
    exact change1E_sim t' r j hv cond F out f s p he (q r j) (hq r j)
   ·exact Sim.fail
  | _ => exact Sim.fail
 | n m t' o =>
  cases m with
  | bor r j hv cv k =>
   simp only [changeE]
   split
   ·rename_i h
    subst h
    refine Sim.call fun xs hx => ?_
    subst hx
    exact change1E_sim t' r j hv cond F out f s p he (q r j) (hq r j)
   ·exact Sim.fail
  | _ => exact Sim.fail
 | _ => exact Sim.fail
theorem mapUpdateE_sim (cfg : ECfg) (t : TypeId) (c : E) (kv vv : SVE) (s : ESt) : Sim s (mapUpdateE cfg t c kv vv) (fun _ => ()) (mapUpdateP cfg.c t (cE c) (cSV kv) (cSV vv)) := by
 unfold mapUpdateE
 split
 ·rename_i kt ki ei hm
  split
  ·rename_i sh u k v hsc hR
   split
   ·rename_i x vc hx hvc
    simp only [bindE_eq]
    refine Sim.sure fun h => ?_
    simp only [Bool.and_eq_true, beq_iff_eq] at h
    obtain ⟨⟨h1, h2⟩, h3⟩ := h
    obtain ⟨hk, g1, g2, g3, g4⟩ := mapOk_iff h1
    obtain ⟨q1, q2⟩ := keyE_eq hx
    simp only [mapUpdateP, hm, hsc, q1, asCells_eq, hvc, Option.map_some, bind_eq]
    rw [need_bind ⟨scOf_fit x hk, by rw [encR_length, g1], by rw [isAgg_eq, q2, g2], by rw [cEs_length, h3, g3], by rw [isAgg_eq, h2, g4]⟩]
    refine Sim.bind (toDsE_sim vc s) fun ds s1 => ?_
    cases hrow : rowT v ds with
    | none => exact Sim.fail
    | some y =>
     have hy : ds.map unDE = encR v y := by
      have := row_unD hrow
      exact this
     rw [hy]
     cases u with
     | false =>
      refine changeE_sim (.ent false k v) c none (fun xs => mput k x y xs) (fun _ => ()) (fun _ => ()) s1 (fun e => e = mcode ki ei ∨ e = unE (mcode ki ei)) (mcode_entU false g1 g2 g3 g4) (fun r j x' e' ys => (need (keysFit sh ki.size ys = true)).bind fun _ => putR r { x' with cv := x'.cv + 1, v := x'.v.setCell j (.own e' (putRow (isUn e') ki.size (encR k x) (encR v y) ys)) }) ?_
      intro r j x' ys _
      rw [need_bind (by rw [← g1]; exact keysFit_ent hk ys), isUn_ent (cfg := cfg.c) hm g1 g2 g3 g4, ← g1]
      show putR _ _ = putR _ _
      congr 4
      simp only [putRow, updRow]
      rcases findRow_ent hk x ys with ⟨e1, _, _, _, e5⟩ | ⟨i, r', e1, _, _, _, _, e6⟩
      ·rw [e1, e5]
       simp only [List.map_append, List.map_cons, List.map_nil]
       rfl
      ·rw [e1, e6]
       simp only [List.map_set]
       rfl
     | true =>
      refine changeE_sim (.ent true k v) c none (fun xs => mputS k x y xs) (fun _ => ()) (fun _ => ()) s1 (fun e => e = mcode ki ei ∨ e = unE (mcode ki ei)) (mcode_entU true g1 g2 g3 g4) (fun r j x' e' ys => (need (keysFit sh ki.size ys = true)).bind fun _ => putR r { x' with cv := x'.cv + 1, v := x'.v.setCell j (.own e' (putRow (isUn e') ki.size (encR k x) (encR v y) ys)) }) ?_
      intro r j x' ys _
      rw [need_bind (by rw [← g1]; exact keysFit_ent hk ys), isUn_ent (cfg := cfg.c) hm g1 g2 g3 g4, ← g1]
      show putR _ _ = putR _ _
      congr 4
      simp only [putRow, insRow, mputS]
      rcases findRow_ent hk x ys with ⟨e1, e2, _⟩ | ⟨i, r', e1, _, e3, _, _, e6⟩
      ·rw [e1, e2]
       exact insAt_ent hk x y ys
      ·rw [e1, e3, Option.isSome_some]
       simp only [e6, List.map_set]
       rfl
   ·exact Sim.fail
  ·rename_i sh k hsc hR
   split
   ·rename_i x hx hvc
    simp only [bindE_eq]
    refine Sim.sure fun h => ?_
    simp only [Bool.and_eq_true] at h
    obtain ⟨h1, h2⟩ := h
    obtain ⟨hk, g1, g2, g3, g4⟩ := mapOk_iff h1
    obtain ⟨q1, q2⟩ := keyE_eq hx
    simp only [mapUpdateP, hm, hsc, q1, asCells_eq, hvc, Option.map_some, bind_eq]
    rw [need_bind ⟨scOf_fit x hk, by rw [encR_length, g1], by rw [isAgg_eq, q2, g2], g3, by rw [isAgg_eq, h2, g4]⟩]
    show Sim s _ _ ((Prog.ret []).bind _)
    refine changeE_sim (.set k) c none (fun xs => sput k x xs) (fun _ => ()) (fun _ => ()) s (fun e => e = mcode ki ei ∨ e = unE (mcode ki ei)) (.inl (mcode_set g1 g2 g3 g4).symm) (fun r j x' e' ys => (need (keysFit sh ki.size ys = true)).bind fun _ => putR r { x' with cv := x'.cv + 1, v := x'.v.setCell j (.own e' (putRow (isUn e') ki.size (encR k x) [] ys)) }) ?_
    intro r j x' ys _
    rw [need_bind (by rw [← g1]; exact keysFit_set hk ys), isUn_set (cfg := cfg.c) hm g1 g2 g3 g4, ← g1]
    show putR _ _ = putR _ _
    congr 4
    simp only [putRow, updRow]
    rcases findRow_set hk x ys with ⟨e1, _, e5⟩ | ⟨i, r', e1, _, _, e6⟩
    ·rw [e1, e5]
     simp only [List.map_append, List.map_cons, List.map_nil, List.append_nil]
     rfl
    ·rw [e1, e6]
     simp only [List.map_set, List.append_nil]
     rfl
   ·exact Sim.fail
  ·exact Sim.fail
 ·exact Sim.fail
theorem mset_eq {u : Bool} {k v : Ty} (y : v.T) : ∀ (n : Nat) (xs : List (Ty.ent u k v).T), n < xs.length → (mset y n xs).map (encR (.ent u k v)) = (xs.map (encR (.ent u k v))).set n (((xs.map (encR (.ent u k v))).getD n []).take k.w ++ encR v y)
 | 0, r :: xs, _ => by
  simp only [mset, List.map_cons, List.set_cons_zero, List.getD_cons_zero, take_ent]
  rfl
 | n + 1, r :: xs, h => by
  simp only [mset, List.map_cons, List.set_cons_succ, List.getD_cons_succ]
  rw [mset_eq y n xs (by simpa using h)]
 | _, [], h => by simp at h
theorem entryStoreE_sim (cfg : ECfg) (t : TypeId) (c st : E) (vv : SVE) (s : ESt) : Sim s (entryStoreE cfg t c st vv) (fun _ => ()) (entryStoreP cfg.c t (cE c) (cE st) (cSV vv)) := by
 unfold entryStoreE
 split
 ·rename_i kt ki ei k v kk n vc hm hR hvc
  simp only [bindE_eq]
  refine Sim.sure fun h => ?_
  simp only [Bool.and_eq_true, beq_iff_eq] at h
  obtain ⟨⟨⟨⟨⟨g1, g2⟩, g3⟩, g4⟩, h2⟩, h3⟩ := h
  simp only [entryStoreP, hm, cE, asCells_eq, hvc, Option.map_some, bind_eq]
  rw [need_bind ⟨by rw [cEs_length, h3, g3], by rw [isAgg_eq, h2, g4]⟩]
  refine Sim.bind (toDsE_sim vc s) fun ds s1 => ?_
  cases hrow : rowT v ds with
  | none => exact Sim.fail
  | some y =>
   rw [show ds.map unDE = encR v y from row_unD hrow]
   refine changeE_sim (.ent false k v) c (some fun xs => decide (0 ≤ n ∧ n < lenI xs)) (fun xs => mset y n.toNat xs) (fun _ => ()) (fun _ => ()) s1 (fun e => e = mcode ki ei) (mcode_ent g1 g2 g3 g4).symm (fun r j x' e' ys => (need (0 ≤ n ∧ n < ys.length)).bind fun _ => putR r { x' with cv := x'.cv + 1, v := x'.v.setCell j (.own e' (ys.set n.toNat ((ys.getD n.toNat []).take ki.size ++ encR v y))) }) ?_
   intro r j x' ys hc
   have hb := of_decide_eq_true (hc _ rfl)
   simp only [lenI] at hb
   rw [need_bind (by simpa using hb), ← g1, mset_eq y n.toNat ys (by omega)]
   rfl
 ·exact Sim.fail
theorem mapEntryE_sim (cfg : ECfg) (t : TypeId) (c : E) (kv : SVE) (s : ESt) : Sim s (mapEntryE cfg t c kv) cSV (mapEntryP cfg.c t (cE c) (cSV kv)) := by
 unfold mapEntryE
 split
 ·rename_i kt ki ei hm
  split
  ·rename_i sh z k v hsc hz hR
   split
   ·rename_i x hx
    simp only [bindE_eq]
    refine Sim.sure fun h => ?_
    simp only [Bool.and_eq_true] at h
    obtain ⟨⟨h1, h2⟩, h3⟩ := h
    obtain ⟨hk, g1, g2, g3, g4⟩ := mapOk_iff h1
    have hzv := zeroIs_eq h2
    obtain ⟨q1, q2⟩ := keyE_eq hx
    simp only [mapEntryP, hm, hsc, hz, q1, bind_eq]
    rw [need_bind ⟨scOf_fit x hk, by rw [encR_length, g1], by rw [isAgg_eq, q2, g2], by rw [hzv, encR_length, g3], by
     rw [← g3, ← g4]; simpa using h3⟩]
    refine changeE_sim (.ent false k v) c none (fun xs => madd k x v.zero xs) _ cSV s (fun e => e = mcode ki ei) (mcode_ent g1 g2 g3 g4).symm (fun r j x' e' xs => (need (keysFit sh ki.size xs = true)).bind fun _ =>
     (putR r { x' with cv := x'.cv + 1, v := x'.v.setCell j (.own e' (if (findRow ki.size (encR k x) xs).isSome = true then xs else xs ++ [encR k x ++ z])) }).bind fun _ =>
     .ret (.tup [(ei.kind.agg, (rowOr ki.size xs z (findRow ki.size (encR k x) xs)).map .d), (false, [.d (.int .i64 ((findRow ki.size (encR k x) xs).getD xs.length : Nat))])])) ?_
    intro r j x' ys _
    rw [need_bind (by rw [← g1]; exact keysFit_ent hk ys), ← g1, ← g4]
    rcases findRow_ent hk x ys with ⟨e1, e2, e3, e4, _⟩ | ⟨i, r', e1, e2, e3, e4, e5, _⟩
    ·rw [e1, e2, e3, e4, hzv]
     simp only [Option.isSome_none, Bool.false_eq_true, if_false, rowOr, List.map_append, List.map_cons, List.map_nil, Option.getD_none, List.length_map]
     congr 1
     funext _
     show Prog.ret (SV.tup [(v.agg, (encR v v.zero).map C.d), (false, [C.d (.int .i64 ys.length)])]) = Prog.ret (SV.tup [(v.agg, cEs (cellsT v v.zero)), (false, [C.d (.int .i64 ys.length)])])
     rw [cells_enc]
    ·rw [e1, e3, e4, e5]
     simp only [Option.isSome_some, if_true, Option.getD_some]
     congr 1
     funext _
     have hrow : rowOr k.w (ys.map (encR (.ent false k v))) z (some i) = encR v r'.2 := by
      simp only [rowOr, List.getD_eq_getElem?_getD, List.getElem?_map, e2, Option.map_some, Option.getD_some]
      exact drop_ent r'
     rw [hrow]
     show Prog.ret (SV.tup [(v.agg, (encR v r'.2).map C.d), (false, [C.d (.int .i64 i)])]) = Prog.ret (SV.tup [(v.agg, cEs (cellsT v r'.2)), (false, [C.d (.int .i64 i)])])
     rw [cells_enc]
   ·exact Sim.fail
  ·exact Sim.fail
 ·exact Sim.fail
theorem makeMapE_sim (cfg : ECfg) (t : TypeId) (dst : Nat) (s : ESt) : Sim s (makeMapE cfg t dst) cSV (makeMapP cfg.c t dst) := by
 unfold makeMapE
 split
 ·rename_i kt ki ei u k v hm hR
  simp only [bindE_eq]
  refine Sim.sure fun h => ?_
  simp only [Bool.and_eq_true, beq_iff_eq] at h
  obtain ⟨⟨⟨⟨g1, g2⟩, g3⟩, g4⟩, hu⟩ := h
  simp only [makeMapP, hm]
  have hu' : cfg.c.un.contains dst = u := hu.symm
  rw [hu']
  refine Sim.ret ?_
  cases u
  ·simp only [cSV, cE, lC, mcode_ent g1 g2 g3 g4, List.map_nil, unIf]
  ·simp only [cSV, cE, lC, Ty.e, mcode, g1, g2, g3, g4, List.map_nil, unIf]
 ·rename_i kt ki ei k hm hR
  simp only [bindE_eq]
  refine Sim.sure fun h => ?_
  simp only [Bool.and_eq_true, beq_iff_eq] at h
  obtain ⟨⟨⟨⟨g1, g2⟩, g3⟩, g4⟩, hu⟩ := h
  simp only [makeMapP, hm]
  have hu' : cfg.c.un.contains dst = false := by rw [Bool.not_eq_true'] at hu; exact hu
  rw [hu']
  exact Sim.ret (by simp only [cSV, cE, lC, mcode_set g1 g2 g3 g4, List.map_nil, unIf])
 ·exact Sim.fail
theorem lenMapE_sim (cfg : ECfg) (t : TypeId) (c : E) (s : ESt) : Sim s (lenMapE cfg t c) cSV (lenMapP cfg.c t (cE c)) := by
 unfold lenMapE
 split
 ·rename_i kt ki ei u k v hm hR
  simp only [bindE_eq]
  refine Sim.sure fun h => ?_
  simp only [Bool.and_eq_true, beq_iff_eq] at h
  obtain ⟨⟨⟨g1, g2⟩, g3⟩, g4⟩ := h
  simp only [lenMapP, hm, bind_eq]
  exact Sim.bind (mapRowsE_sim _ (mcode_entU u g1 g2 g3 g4) c s) fun xs s1 => Sim.ret (by simp [dint, dintE, cSV, cE, lenI])
 ·rename_i kt ki ei k hm hR
  simp only [bindE_eq]
  refine Sim.sure fun h => ?_
  simp only [Bool.and_eq_true, beq_iff_eq] at h
  obtain ⟨⟨⟨g1, g2⟩, g3⟩, g4⟩ := h
  simp only [lenMapP, hm, bind_eq]
  exact Sim.bind (mapRowsE_sim _ (.inl (mcode_set g1 g2 g3 g4).symm) c s) fun xs s1 => Sim.ret (by simp [dint, dintE, cSV, cE, lenI])
 ·exact Sim.fail
end Go.Ve
namespace Go.Ve
open Go.Vs
theorem pickE_sim (c a b : Operand) (s : ESt) : Sim s ((ev1E c).bind fun c' => match c' with
  | .tt => evE a
  | .ff => evE b
  | .b x => .br x ((know c true).bind fun _ => evE a) ((know c false).bind fun _ => evE b)
  | _ => .fail) cSV ((ev1 c).bind fun c' => (cBool c').bind fun b' => if b' = true then ev a else ev b) := by
 have kn : ∀ (c' : E) (s' : ESt), (∀ t, c ≠ .tmp t) → Sim s' (match c' with
  | .tt => evE a
  | .ff => evE b
  | .b x => .br x ((know c true).bind fun _ => evE a) ((know c false).bind fun _ => evE b)
  | _ => .fail) cSV ((cBool (cE c')).bind fun b' => if b' = true then ev a else ev b) := by
  intro c' s' hc
  have e : ∀ b, know c b = .ret () := by
   intro b
   cases c with
   | tmp t => exact absurd rfl (hc t)
   | _ => rfl
  cases c' with
  | tt => exact evE_sim a s'
  | ff => exact evE_sim b s'
  | b x =>
   simp only [e, retE_bind]
   refine Sim.br (fun h => ?_) fun h => ?_
   ·subst h; exact evE_sim a s'
   ·subst h; exact evE_sim b s'
  | l m t xs => cases m <;> exact Sim.fail
  | n m t o => cases m <;> cases o <;> exact Sim.fail
  | _ => exact Sim.fail
 cases c with
 | tmp t =>
  have e1 : ev1E (.tmp t) = .get (.tmp t) fun x => (match x.v with | .undef => PE.fail | _ => .ret (x.copy (.tmp t))).bind asOneE := rfl
  have e2 : ev1 (.tmp t) = .get (.tmp t) fun x => (match x.v with | .undef => Prog.fail | _ => .ret (x.copy (.tmp t))).bind asOne := rfl
  rw [e1, e2]
  refine Sim.get ?_
  dsimp only
  have hc := copy_eq (s.get (.tmp t)) (.tmp t)
  cases hv : (s.get (.tmp t)).v with
  | undef => exact Sim.fail
  | agg cs =>
   have h1 : (s.get (.tmp t)).copy (.tmp t) = .agg (bcellsE (.tmp t) (s.get (.tmp t)) 0 cs) := by unfold RVE.copy; rw [hv]
   rw [h1]; exact Sim.fail
  | tup cs =>
   have h1 : (s.get (.tmp t)).copy (.tmp t) = .tup (btupE (.tmp t) (s.get (.tmp t)) 0 cs) := by unfold RVE.copy; rw [hv]
   rw [h1]; exact Sim.fail
  | one c0 =>
   have h1 : (s.get (.tmp t)).copy (.tmp t) = .one (bcellE (.tmp t) (s.get (.tmp t)) 0 c0) := by unfold RVE.copy; rw [hv]
   have h2 : (cRV (s.get (.tmp t))).copy (.tmp t) = .one (cE (bcellE (.tmp t) (s.get (.tmp t)) 0 c0)) := by rw [← hc, h1]; rfl
   have h3 : (cRV (s.get (.tmp t))).v = .one (cE c0) := by simp only [cRV, hv, cSV]
   rw [h1, h2, h3]
   show Sim s ((PE.ret (bcellE (.tmp t) (s.get (.tmp t)) 0 c0)).bind _) _ ((Prog.ret (cE (bcellE (.tmp t) (s.get (.tmp t)) 0 c0))).bind _)
   rw [retE_bind]
   show Sim s _ _ ((cBool (cE (bcellE (.tmp t) (s.get (.tmp t)) 0 c0))).bind fun b' => if b' = true then ev a else ev b)
   cases c0 with
   | tt => exact evE_sim a s
   | ff => exact evE_sim b s
   | b x =>
    refine Sim.br (fun h => ?_) fun h => ?_
    ·have := Sim.know (s := s) (p := evE a) (f := cSV) (q := ev a) hv h (evE_sim a _)
     subst h
     exact this
    ·have := Sim.know (s := s) (p := evE b) (f := cSV) (q := ev b) hv h (evE_sim b _)
     subst h
     exact this
   | l m t xs => cases m <;> exact Sim.fail
   | n m t o => cases m <;> cases o <;> exact Sim.fail
   | _ => exact Sim.fail
 | _ => exact Sim.bind (ev1E_sim _ s) fun c' s1 => kn c' s1 (by intro t h; cases h)
theorem allocE_sim (cfg : ECfg) (t : TypeId) (dst : Nat) (s : ESt) : Sim s (avalE cfg (.alloc t) dst) cSV (aval cfg.c (.alloc t) dst) := by
 simp only [avalE, aval]
 split
 ·rename_i size bytes kind z h
  simp only [h, bindE_eq, bind_eq]
  refine Sim.sure fun hz => ?_
  rw [need_bind (by simpa using hz)]
  refine Sim.get ?_
  cases hv : (s.get (.box (.loc dst))).v with
  | undef =>
   simp only [cRV, hv, cSV]
   cases ho : ofDs z with
   | none => exact Sim.fail
   | some cs =>
    simp only [putE_bind, putR_bind]
    refine Sim.put rfl ?_ (Sim.ret rfl)
    simp only [cRV, cSV, ofDs_eq ho]
  | _ => simp only [cRV, hv, cSV]; exact Sim.fail
 ·exact Sim.fail
theorem boxE_sim (cfg : ECfg) (t : TypeId) (x : Operand) (dst : Nat) (s : ESt) : Sim s (avalE cfg (.box t x) dst) cSV (aval cfg.c (.box t x) dst) := by
 simp only [avalE, aval, bindE_eq, bind_eq]
 refine Sim.bind (evE_sim x s) fun v s1 => ?_
 rw [asCells_eq]
 cases v.asCells with
 | none => exact Sim.fail
 | some cs =>
  simp only [Option.map_some]
  have e : takeStoreE cfg.c (.ptr (.loc dst) 0) = takeStore cfg.c (.ptr (.loc dst) 0) := by funext r; exact takeStore_eq _ _ _
  rw [e]
  refine Sim.bind (stashesE_sim _ _ cs 0 s1) fun cs' s2 => Sim.get ?_
  cases hv : (s2.get (.box (.loc dst))).v with
  | undef =>
   simp only [cRV, hv, cSV, putE_bind, putR_bind]
   exact Sim.put rfl rfl (Sim.ret rfl)
  | _ => simp only [cRV, hv, cSV]; exact Sim.fail
theorem binOpE_sim (cfg : ECfg) (op : BinOp) (t : TypeId) (x y : Operand) (yt : TypeId) (dst : Nat) (s : ESt) : Sim s (avalE cfg (.binOp op t x y yt) dst) cSV (aval cfg.c (.binOp op t x y yt) dst) := by
 simp only [avalE, aval, bindE_eq, bind_eq]
 refine Sim.bind (evE_sim x s) fun v s1 => Sim.bind (evE_sim y s1) fun u s2 => ?_
 cases v <;> cases u <;> first | exact binE_sim _ _ _ _ _ _ | exact eqAggE_sim _ _ _ _ _ _ | exact Sim.fail
theorem unOpE_sim (cfg : ECfg) (op : UnOp) (t : TypeId) (x : Operand) (dst : Nat) (s : ESt) : Sim s (avalE cfg (.unOp op t x) dst) cSV (aval cfg.c (.unOp op t x) dst) := by
 simp only [avalE, aval, bindE_eq, bind_eq]
 refine Sim.bind (ev1E_sim x s) fun c s1 => ?_
 cases c with
 | l m t xs => cases m <;> cases op <;> exact Sim.fail
 | n m t o => cases m <;> cases o <;> cases op <;> exact Sim.fail
 | i k n => cases op <;> first | exact Sim.ret rfl | exact binIntE_sim _ _ _ _ _ | exact Sim.fail
 | _ => cases op <;> first | exact Sim.ret rfl | exact Sim.fail
theorem makeFuncE_sim (cfg : ECfg) (f : Fn) (first captured : Array Operand) (dst : Nat) (s : ESt) : Sim s (avalE cfg (.makeFunc f first captured) dst) cSV (aval cfg.c (.makeFunc f first captured) dst) := by
 cases f with
 | func f =>
  simp only [avalE, aval, bindE_eq, bind_eq]
  refine Sim.sure fun h => ?_
  rw [need_bind (by
   have : first.toList = [] := by simpa using h
   exact Array.toList_inj.1 (by simpa using this))]
  refine Sim.bind (evsE_sim _ s) fun vs s1 => ?_
  cases hp : isPtrs vs with
  | none => exact Sim.fail
  | some l =>
   have := congrArg (fun o : Option (List (Key × Nat)) => match o with | some l => Prog.ret (SV.one (.clo f l)) | none => .fail) (isPtrs_eq hp)
   exact Sim.eqP (Sim.ret rfl) this
 | _ => exact Sim.fail
theorem sliceE_sim (cfg : ECfg) (t : TypeId) (x : Operand) (lo hi mx : Option Operand) (dst : Nat) (s : ESt) : Sim s (avalE cfg (.slice t x lo hi mx) dst) cSV (aval cfg.c (.slice t x lo hi mx) dst) := by
 cases mx with
 | some m => exact Sim.fail
 | none =>
  simp only [avalE, aval]
  split
  ·rename_i h
   simp only [h, bindE_eq, bind_eq]
   exact Sim.bind (evE_sim x s) fun v s1 => Sim.bind (evOptE_sim lo s1) fun l s2 => Sim.bind (evOptE_sim hi s2) fun h s3 => subStrE_sim _ _ _ s3
  ·rename_i h
   simp only [h]
   split
   ·rename_i h2
    simp only [h2, bindE_eq, bind_eq]
    exact Sim.bind (evE_sim x s) fun v s1 => Sim.bind (evOptE_sim lo s1) fun l s2 => Sim.bind (evOptE_sim hi s2) fun h s3 => subSlE_sim _ _ _ _ s3
   ·exact Sim.fail
  ·exact Sim.fail
theorem fieldValE_sim (cfg : ECfg) (t : TypeId) (x : Operand) (f : Nat) (dst : Nat) (s : ESt) : Sim s (avalE cfg (.field t x f) dst) cSV (aval cfg.c (.field t x f) dst) := by
 simp only [avalE, aval, bindE_eq, bind_eq]
 refine Sim.bind (evE_sim x s) fun v s1 => ?_
 split
 ·rename_i h
  simp only [h, cSV]
  split
  ·rename_i h2
   simp only [h2]
   split
   ·rename_i h3
    simp only [h3]
    exact slice1E_sim _ _ _ s1
   ·exact Sim.fail
  ·exact Sim.fail
 ·exact Sim.fail
theorem extractE_sim (cfg : ECfg) (x : Operand) (n : Nat) (dst : Nat) (s : ESt) : Sim s (avalE cfg (.extract x n) dst) cSV (aval cfg.c (.extract x n) dst) := by
 simp only [avalE, aval, bindE_eq, bind_eq]
 refine Sim.bind (evE_sim x s) fun v s1 => ?_
 cases v with
 | tup vs =>
  simp only [cSV]
  have hg : (cTup vs)[n]? = (vs[n]?).map fun p => (p.1, cEs p.2) := by simp [cTup]
  rw [hg]
  cases vs[n]? with
  | none => exact Sim.fail
  | some p =>
   obtain ⟨b, cs⟩ := p
   cases b with
   | true => exact moveSVE_sim _ _ (.agg cs) s1
   | false =>
    cases cs with
    | nil => exact Sim.fail
    | cons c r => cases r <;> first | exact moveSVE_sim _ _ (.one c) s1 | exact Sim.fail
 | _ => exact Sim.fail
theorem callOpE_sim (cfg : ECfg) (c : Call) (dst : Nat) (s : ESt) : Sim s (avalE cfg (.call c) dst) cSV (aval cfg.c (.call c) dst) := by
 obtain ⟨callee, args, tys⟩ := c
 cases callee with
 | value o =>
  simp only [avalE, aval, bindE_eq, bind_eq]
  refine Sim.bind (calleeE_sim o s) fun p s1 => Sim.bind (evsE_sim _ s1) fun vs s2 => ?_
  have := callE_sim cfg p.1 (vs ++ p.2) dst s2
  rw [List.map_append] at this
  exact this
 | invoke r m => exact Sim.fail
 | builtin b =>
  cases b with
  | len =>
   simp only [avalE, aval]
   split
   ·rename_i h1 h2
    simp only [h1, h2]
    split
    ·rename_i h3
     simp only [h3, bindE_eq, bind_eq]
     exact Sim.bind (evE_sim _ s) fun v s1 => lenE_sim _ _ s1
    ·rename_i h3
     simp only [h3, bindE_eq, bind_eq]
     exact Sim.bind (evE_sim _ s) fun v s1 => lenE_sim _ _ s1
    ·rename_i h3
     simp only [h3, bindE_eq, bind_eq]
     exact Sim.bind (ev1E_sim _ s) fun v s1 => lenMapE_sim _ _ _ s1
    ·exact Sim.fail
   ·exact Sim.fail
  | append =>
   simp only [avalE, aval]
   split
   ·rename_i h1 h2
    simp only [h1, h2]
    split
    ·rename_i h3
     simp only [h3]
     split
     ·rename_i h4 h5
      simp only [h4]
      split
      ·rename_i h6
       simp only [h6, bindE_eq, bind_eq]
       refine Sim.bind (ev1E_sim _ s) fun c s1 => Sim.bind (ev1E_sim _ s1) fun c2 s2 => ?_
       exact Sim.bind (cIntE_sim _ s2) fun n s3 => appendMakeE_sim _ _ _ _ s3
      rename_i h6
      split
      ·rename_i h7; exact absurd h7 (h6 _ _ _)
      simp only [bindE_eq, bind_eq]
      exact Sim.bind (ev1E_sim _ s) fun c s1 => Sim.bind (ev1E_sim _ s1) fun c2 s2 => Sim.bind (addedE_sim _ _ _ _ _ s2) fun ys s3 => appendE_sim _ _ _ _ _ s3
     ·exact Sim.fail
    ·exact Sim.fail
   ·exact Sim.fail
  | cap =>
   simp only [avalE, aval]
   split
   ·rename_i h1 h2
    simp only [h1, h2]
    split
    ·rename_i h3
     simp only [h3, bindE_eq, bind_eq]
     exact Sim.bind (ev1E_sim _ s) fun c s1 => capE_sim _ s1
    ·exact Sim.fail
   ·exact Sim.fail
  | min => simp only [avalE, aval, bindE_eq, bind_eq]; exact Sim.bind (evsE_sim _ s) fun vs s1 => minmaxE_sim _ _ s1
  | max => simp only [avalE, aval, bindE_eq, bind_eq]; exact Sim.bind (evsE_sim _ s) fun vs s1 => minmaxE_sim _ _ s1
  | _ => exact Sim.fail
theorem avalE_sim (cfg : ECfg) (op : Op) (dst : Nat) (s : ESt) : Sim s (avalE cfg op dst) cSV (aval cfg.c op dst) := by
 cases op with
 | move x =>
  simp only [avalE, aval, bindE_eq, bind_eq]
  refine Sim.bind (evE_sim x s) fun v s1 => ?_
  cases Vs.isVar cfg.c x with
  | true => simp only [if_true]; exact Sim.ret rfl
  | false => simp only [Bool.false_eq_true, if_false]; exact moveSVE_sim _ x v s1
 | assign x =>
  simp only [avalE, aval, bindE_eq, bind_eq]
  exact Sim.bind (evE_sim x s) fun v s1 => stashSVE_sim _ _ v s1
 | pick c a b => exact pickE_sim c a b s
 | alloc t => exact allocE_sim cfg t dst s
 | box t x => exact boxE_sim cfg t x dst s
 | build t ps => exact buildE_sim _ _ _ s
 | buildSlice t len ps => exact buildSliceE_sim _ _ _ _ s
 | load t a =>
  simp only [avalE, aval]
  split
  ·rename_i h
   simp only [h, bindE_eq, bind_eq]
   exact Sim.bind (ev1E_sim a s) fun c s1 => loadE_sim _ _ s1
  ·exact Sim.fail
 | nilCheck x =>
  simp only [avalE, aval, bindE_eq, bind_eq]
  refine Sim.bind (ev1E_sim x s) fun c s1 => ?_
  cases c with
  | l m t xs => cases m <;> exact Sim.fail
  | n m t o => cases m <;> cases o <;> exact Sim.fail
  | _ => first | exact Sim.ret rfl | exact Sim.fail
 | binOp op t x y yt => exact binOpE_sim cfg op t x y yt dst s
 | unOp op t x => exact unOpE_sim cfg op t x dst s
 | convert a b x =>
  simp only [avalE, aval, bindE_eq, bind_eq]
  exact Sim.bind (evE_sim x s) fun v s1 => convertE_sim _ _ _ _ s1
 | makeFunc f a b => exact makeFuncE_sim cfg f a b dst s
 | makeSlice t l c =>
  simp only [avalE, aval, bindE_eq, bind_eq]
  exact Sim.bind (ev1E_sim l s) fun v s1 => Sim.bind (cIntE_sim v s1) fun n s2 => Sim.bind (ev1E_sim c s2) fun u s3 => Sim.bind (cIntE_sim u s3) fun m s4 => makeSliceE_sim _ _ _ _ s4
 | slice t x lo hi mx => exact sliceE_sim cfg t x lo hi mx dst s
 | fieldAddr t x f =>
  simp only [avalE, aval, bindE_eq, bind_eq]
  exact Sim.bind (ev1E_sim x s) fun v s1 => Sim.bind (fieldE_sim _ _ _ _ s1) fun u s2 => Sim.ret rfl
 | field t x f => exact fieldValE_sim cfg t x f dst s
 | indexAddr t x ix =>
  simp only [avalE, aval, bindE_eq, bind_eq]
  exact Sim.bind (ev1E_sim x s) fun v s1 => Sim.bind (ev1E_sim ix s1) fun u s2 => Sim.bind (cIntE_sim u s2) fun n s3 => Sim.bind (indexAddrE_sim _ _ _ _ s3) fun w s4 => Sim.ret rfl
 | index t x ix =>
  simp only [avalE, aval, bindE_eq, bind_eq]
  exact Sim.bind (evE_sim x s) fun v s1 => Sim.bind (ev1E_sim ix s1) fun u s2 => Sim.bind (cIntE_sim u s2) fun n s3 => indexE_sim _ _ _ _ s3
 | extract x n => exact extractE_sim cfg x n dst s
 | makeMap t r =>
  cases r with
  | none => exact makeMapE_sim cfg t dst s
  | some r => exact Sim.fail
 | lookup t x ix ok =>
  simp only [avalE, aval, bindE_eq, bind_eq]
  exact Sim.bind (ev1E_sim x s) fun c s1 => Sim.bind (evE_sim ix s1) fun v s2 => lookupE_sim cfg t c v ok s2
 | mapEntry t m k =>
  simp only [avalE, aval, bindE_eq, bind_eq]
  exact Sim.bind (ev1E_sim m s) fun c s1 => Sim.bind (evE_sim k s1) fun v s2 => mapEntryE_sim cfg t c v s2
 | call c => exact callOpE_sim cfg c dst s
 | _ => exact Sim.fail
theorem putTmpE_sim (cfg : ECfg) (t : Nat) (v : SVE) (s : ESt) : Sim s (putTmpE cfg t v) (fun _ => ()) (putTmp cfg.c t (cSV v)) := by
 simp only [putTmpE, putTmp, bindE_eq, bind_eq]
 refine Sim.get (Sim.sure fun h => ?_)
 rw [need_bind (p := t < cfg.c.N) ((nlt_iff _ _).1 h)]
 exact Sim.put rfl rfl (Sim.ret rfl)
theorem step0E_sim (cfg : ECfg) (o : Oper) (s : ESt) : Sim s (step0E cfg o) (fun _ => ()) (astep0 cfg.c o) := by
 obtain ⟨dst, op, ty, pos, after, guard⟩ := o
 cases dst with
 | some d =>
  have e1 : step0E cfg ⟨some d, op, ty, pos, after, guard⟩ = (avalE cfg op d).bind fun v => putTmpE cfg d v := by cases op <;> rfl
  have e2 : astep0 cfg.c ⟨some d, op, ty, pos, after, guard⟩ = (aval cfg.c op d).bind fun v => putTmp cfg.c d v := by cases op <;> rfl
  rw [e1, e2]
  exact Sim.bind (avalE_sim cfg op d s) fun v s1 => putTmpE_sim cfg d v s1
 | none =>
  cases op with
  | store t a x =>
   simp only [step0E, astep0]
   split
   ·rename_i h3
    simp only [h3, bindE_eq, bind_eq]
    exact Sim.bind (ev1E_sim _ s) fun c s1 => Sim.bind (evE_sim _ s1) fun v s2 => storeE_sim _ _ (funext fun r => takeStore_eq _ _ _) _ _ _ s2
   ·exact Sim.fail
  | mapUpdate t m k x =>
   simp only [step0E, astep0, bindE_eq, bind_eq]
   exact Sim.bind (ev1E_sim _ s) fun c s1 => Sim.bind (evE_sim _ s1) fun v s2 => Sim.bind (evE_sim _ s2) fun u s3 => mapUpdateE_sim _ _ _ _ _ s3
  | insert t m k x =>
   simp only [step0E, astep0, bindE_eq, bind_eq]
   exact Sim.bind (ev1E_sim _ s) fun c s1 => Sim.bind (evE_sim _ s1) fun v s2 => Sim.bind (evE_sim _ s2) fun u s3 => mapUpdateE_sim _ _ _ _ _ s3
  | entryStore t m st x =>
   simp only [step0E, astep0, bindE_eq, bind_eq]
   exact Sim.bind (ev1E_sim _ s) fun c s1 => Sim.bind (ev1E_sim _ s1) fun v s2 => Sim.bind (evE_sim _ s2) fun u s3 => entryStoreE_sim _ _ _ _ _ s3
  | _ => exact Sim.fail
theorem stepE_sim (cfg : ECfg) (ops : Array Oper) (o : Oper) (s : ESt) : Sim s (stepE cfg ops o) (fun _ => ()) (astep cfg.c ops o) := by
 unfold stepE astep
 cases o.guard with
 | none => exact step0E_sim cfg o s
 | some p =>
  obtain ⟨j, want⟩ := p
  have undo : ∀ s', Sim s' (match o.dst with | some d => putTmpE cfg d (.tup []) | none => PE.ret ()) (fun _ => ()) (match o.dst with | some d => putTmp cfg.c d (.tup []) | none => Prog.ret ()) := by
   intro s'
   cases o.dst with
   | none => exact Sim.ret rfl
   | some d => exact putTmpE_sim cfg d (.tup []) s'
  simp only [bind_eq]
  unfold guardVal
  cases (ops[j]?).bind (·.dst) with
  | none => exact Sim.fail
  | some t =>
   refine Sim.get ?_
   dsimp only
   cases hv : (s.get (.tmp t)).v with
   | undef => exact Sim.fail
   | agg cs => exact Sim.fail
   | tup cs =>
    cases cs with
    | cons => exact Sim.fail
    | nil =>
     have h3 : (cRV (s.get (.tmp t))).v = .tup [] := by simp only [cRV, hv, cSV]; rfl
     rw [h3]
     show Sim s _ _ (if none = some want then astep0 cfg.c o else _)
     rw [if_neg (by simp)]
     exact undo s
   | one c =>
    have h3 : (cRV (s.get (.tmp t))).v = .one (cE c) := by simp only [cRV, hv, cSV]
    rw [h3]
    cases c with
    | tt =>
     show Sim s (match want with | true => step0E cfg o | false => _) _ (if some true = some want then astep0 cfg.c o else _)
     cases want with
     | true => simp only [if_true]; exact step0E_sim cfg o s
     | false => rw [if_neg (by simp)]; exact undo s
    | ff =>
     show Sim s (match want with | true => _ | false => step0E cfg o) _ (if some false = some want then astep0 cfg.c o else _)
     cases want with
     | true => rw [if_neg (by simp)]; exact undo s
     | false => simp only [if_true]; exact step0E_sim cfg o s
    | b x =>
     show Sim s (match want with | true => PE.br x _ _ | false => PE.br x _ _) _ (if some x = some want then astep0 cfg.c o else _)
     cases want with
     | true =>
      refine Sim.br (fun h => ?_) fun h => ?_
      ·subst h; simp only [if_true]; exact Sim.know hv rfl (step0E_sim cfg o _)
      ·subst h; rw [if_neg (by simp)]; exact Sim.know hv rfl (undo _)
     | false =>
      refine Sim.br (fun h => ?_) fun h => ?_
      ·subst h; rw [if_neg (by simp)]; exact Sim.know hv rfl (undo _)
      ·subst h; simp only [if_true]; exact Sim.know hv rfl (step0E_sim cfg o _)
    | l m t xs => cases m <;> exact Sim.fail
    | n m t o => cases m <;> cases o <;> exact Sim.fail
    | _ => exact Sim.fail
def FpSub : List (List Res × List Res) → List (List Res × List Res) → Prop
 | [], [] => True
 | a :: l, b :: m => (∀ r ∈ a.1, r ∈ b.1) ∧ (∀ r ∈ a.2, r ∈ b.2) ∧ FpSub l m
 | _, _ => False
theorem FpSub.length : ∀ {l m : List (List Res × List Res)}, FpSub l m → l.length = m.length
 | [], [], _ => rfl
 | _ :: _, _ :: _, h => by simp only [List.length_cons, FpSub.length h.2.2]
 | [], _ :: _, h => h.elim
 | _ :: _, [], h => h.elim
theorem FpSub.getD : ∀ {l m : List (List Res × List Res)}, FpSub l m → ∀ i, (∀ r ∈ (l.getD i ([], [])).1, r ∈ (m.getD i ([], [])).1) ∧ ∀ r ∈ (l.getD i ([], [])).2, r ∈ (m.getD i ([], [])).2
 | [], [], _, i => ⟨fun _ h => h, fun _ h => h⟩
 | _ :: _, _ :: _, h, 0 => ⟨h.1, h.2.1⟩
 | _ :: _, _ :: _, h, i + 1 => by simpa using FpSub.getD h.2.2 i
 | [], _ :: _, h, _ => h.elim
 | _ :: _, [], h, _ => h.elim
theorem indep_sub {a b a' b' : List Res × List Res} (h : indep a' b' = true) (h1 : ∀ r ∈ a.1, r ∈ a'.1) (h2 : ∀ r ∈ a.2, r ∈ a'.2) (h3 : ∀ r ∈ b.1, r ∈ b'.1) (h4 : ∀ r ∈ b.2, r ∈ b'.2) : indep a b = true := by
 simp only [indep, Bool.and_eq_true, List.all_eq_true, Bool.not_eq_true', List.contains_eq_mem, decide_eq_false_iff_not] at h ⊢
 exact ⟨fun r hr => ⟨fun hq => (h.1 r (h2 r hr)).1 (h3 r hq), fun hq => (h.1 r (h2 r hr)).2 (h4 r hq)⟩, fun r hr hq => h.2 r (h4 r hr) (h1 r hq)⟩
theorem FpSub.pairs {l m : List (List Res × List Res)} (h : FpSub l m) {an : List (List Nat)} (hp : pairsOk m an = true) : pairsOk l an = true := by
 simp only [pairsOk, List.all_eq_true, List.mem_range, Bool.or_eq_true] at hp ⊢
 intro j hj i hi
 rcases hp j (by rw [← h.length]; exact hj) i hi with q | q
 ·exact .inl q
 ·exact .inr (indep_sub q (h.getD i).1 (h.getD i).2 (h.getD j).1 (h.getD j).2)
theorem runE_sim (cfg : ECfg) (ops : Array Oper) : ∀ (l : List Oper) (s : ESt), (runE cfg ops l s).box fun x => ∃ fps, runBoth cfg.c ops l (cSt s) = some (cSt x.1, fps) ∧ FpSub fps x.2
 | [], s => ⟨[], rfl, trivial⟩
 | o :: r, s => by
  simp only [runE]
  rw [Tr.box_bind]
  refine Tr.box_mono ?_ (stepE_sim cfg ops o s)
  rintro ⟨a, s', f, g⟩ ⟨fr, fw, h, i1, i2⟩
  simp only at h i1 i2 ⊢
  rw [Tr.box_bind]
  refine Tr.box_mono ?_ (runE_sim cfg ops r s')
  rintro ⟨s'', l⟩ ⟨fps, h2, h3⟩
  simp only at h2 h3 ⊢
  exact ⟨(fr, fw) :: fps, by simp only [runBoth, h, h2], i1, i2, h3⟩
end Go.Ve
namespace Go.Ve
open Go.Vs
def WkC (c c' : C) : Prop := c' = c ∨ c' = .dead
def WkSV : SV → SV → Prop
 | _, .undef => True
 | .one c, .one c' => WkC c c'
 | .agg cs, .agg cs' => All2 WkC cs cs'
 | .tup vs, .tup vs' => All2 (fun p q => p.1 = q.1 ∧ All2 WkC p.2 q.2) vs vs'
 | _, _ => False
theorem WkC.all_refl : ∀ (cs : List C), All2 WkC cs cs
 | [] => trivial
 | _ :: cs => ⟨.inl rfl, WkC.all_refl cs⟩
theorem All2.comp {α β γ : Type} {R : α → β → Prop} {S : β → γ → Prop} {U : α → γ → Prop} (h : ∀ a b c, R a b → S b c → U a c) : ∀ {as : List α} {bs : List β} {cs : List γ}, All2 R as bs → All2 S bs cs → All2 U as cs
 | [], [], [], _, _ => trivial
 | _ :: _, _ :: _, _ :: _, h1, h2 => ⟨h _ _ _ h1.1 h2.1, All2.comp h h1.2 h2.2⟩
 | [], [], _ :: _, _, h2 => h2.elim
 | _ :: _, [], _, h1, _ => h1.elim
 | [], _ :: _, _, h1, _ => h1.elim
 | _ :: _, _ :: _, [], _, h2 => h2.elim
theorem SVRel.weak {R R' : C → Value → Prop} {u : Value} {v v' : SV} (hR : ∀ c c' x, R c x → WkC c c' → R' c' x) (h : SVRel R u v) (hw : WkSV v v') : SVRel R' u v' := by
 cases v' with
 | undef => trivial
 | one c' => cases v <;> first | exact ⟨h.1, hR _ _ _ h.2 hw⟩ | exact hw.elim
 | agg cs' =>
  cases v with
  | agg cs =>
   obtain ⟨ws, h1, h2⟩ := h
   exact ⟨ws, h1, All2.comp (fun a b c h1 h2 => hR b c a h1 h2) h2 hw⟩
  | _ => exact hw.elim
 | tup vs' =>
  cases v with
  | tup vs =>
   obtain ⟨ws, h1, h2⟩ := h
   refine ⟨ws, h1, All2.comp ?_ h2 hw⟩
   rintro x ⟨b, cs⟩ ⟨b', cs'⟩ hx ⟨e, hy⟩
   simp only at e hy
   subst e
   unfold TRel at hx ⊢
   cases b with
   | true =>
    simp only [if_true] at hx ⊢
    obtain ⟨ws, g1, g2⟩ := hx
    exact ⟨ws, g1, All2.comp (fun a b c h1 h2 => hR b c a h1 h2) g2 hy⟩
   | false =>
    simp only [Bool.false_eq_true, if_false] at hx ⊢
    obtain ⟨c, g1, g2, g3⟩ := hx
    subst g1
    cases cs' with
    | nil => exact hy.elim
    | cons c' r =>
     cases r with
     | nil => exact ⟨c', rfl, g2, hR _ _ _ g3 hy.1⟩
     | cons => exact hy.2.elim
  | _ => exact hw.elim
theorem WkSV.cell : ∀ {v v' : SV}, WkSV v v' → ∀ (j : Nat) (c' : C), v'.cells[j]? = some c' → ∃ c, v.cells[j]? = some c ∧ WkC c c' := by
 have flat : ∀ {cs cs' : List C}, All2 WkC cs cs' → ∀ (j : Nat) (c' : C), cs'[j]? = some c' → ∃ c, cs[j]? = some c ∧ WkC c c' := fun h j c' hc => h.get hc
 have app : ∀ {cs cs' ds ds' : List C}, All2 WkC cs cs' → All2 WkC ds ds' → All2 WkC (cs ++ ds) (cs' ++ ds') := fun h1 h2 => All2.append h1 h2
 intro v v' h j c' hc
 cases v' with
 | undef => simp [SV.cells] at hc
 | one d =>
  cases v <;> first | exact flat (cs := [_]) (cs' := [_]) ⟨h, trivial⟩ j c' hc | exact h.elim
 | agg cs' => cases v <;> first | exact flat h j c' hc | exact h.elim
 | tup vs' =>
  cases v with
  | tup vs =>
   replace hc : (vs'.flatMap (fun p : Bool × List C => p.2))[j]? = some c' := hc
   show ∃ c, (vs.flatMap (fun p : Bool × List C => p.2))[j]? = some c ∧ _
   refine flat ?_ j c' hc
   clear hc
   have : ∀ {vs vs' : List (Bool × List C)}, All2 (fun p q => p.1 = q.1 ∧ All2 WkC p.2 q.2) vs vs' → All2 WkC (vs.flatMap (·.2)) (vs'.flatMap (·.2)) := by
    intro vs
    induction vs with
    | nil => intro vs' h; cases vs' <;> first | trivial | exact h.elim
    | cons p vs ih =>
     intro vs' h
     cases vs' with
     | nil => exact h.elim
     | cons q vs' => simp only [List.flatMap_cons]; exact app h.1.2 (ih h.2)
   exact this h
  | _ => exact h.elim
section
variable {K : Ctx} {β : Key → Option Nat} {ω : Nat → Option Holder} {Z : Nat → Prop} {s s' : St} {a : Act} {w : World}
theorem Rel.weak (h : Rel K β ω Z s a w) (hz : ∀ r, (s' r).hv = (s r).hv ∧ (s' r).cv = (s r).cv) (ht : ∀ t, WkSV (s (.tmp t)).v (s' (.tmp t)).v)
  (hb : ∀ k, WkSV (s (.box k)).v (s' (.box k)).v ∧ ((s' (.box k)).v = .undef → (s (.box k)).v = .undef)) (ha : ∀ i, (s' (.arg i)).v = (s (.arg i)).v) : Rel K β ω Z s' a w := by
 have hall : ∀ r, WkSV (s r).v (s' r).v := by
  intro r
  cases r with
  | tmp t => exact ht t
  | box k => exact (hb k).1
  | arg i =>
   rw [ha]
   cases hv : (s (.arg i)).v with
   | one c => exact .inl rfl
   | agg cs => exact WkC.all_refl cs
   | tup vs =>
    show All2 _ vs vs
    clear hv
    induction vs with
    | nil => trivial
    | cons p vs ih => exact ⟨⟨rfl, WkC.all_refl _⟩, ih⟩
   | undef => trivial
 have hat : ∀ r j, (s' r).at j ≠ .dead → (s' r).at j = (s r).at j := by
  intro r j hd
  cases hc : (s' r).v.cells[j]? with
  | none => exact absurd (by simp [RV.at, List.getD_eq_getElem?_getD, hc]) hd
  | some c =>
   obtain ⟨c0, h0, h1⟩ := (hall r).cell j c hc
   have e0 := at_of_cells h0
   have e1 := at_of_cells hc
   rw [e1] at hd ⊢
   rw [e0]
   rcases h1 with h1 | h1
   ·exact h1
   ·exact absurd h1 hd
 have hcr : ∀ (c : C) (u : Value), CRel K β Z s a w c u → CRel K β Z s' a w c u := by
  intro c u hcu
  cases c with
  | bor r j hv cv e k xs =>
   by_cases hm : isMap e = true
   ·obtain ⟨b, g1, g4, g5, g6⟩ := (CRel.bor_mp hm).1 hcu
    refine (CRel.bor_mp hm).2 ⟨b, g1, by rw [(hz r).1]; exact g4, by rw [(hz r).2]; exact g5, fun e1 e2 => ?_⟩
    rw [(hz r).1] at e1
    have e3 := hat r j e2
    obtain ⟨f1, ys, f8, f9⟩ := g6 e1 (by rw [← e3]; exact e2)
    exact ⟨f1, ys, by rw [e3]; exact f8, fun e4 => f9 (by rw [← (hz r).2]; exact e4)⟩
   have hm : isMap e = false := by simpa using hm
   obtain ⟨ad', cap', g1, g2, g3, g4, g5, g6⟩ := (CRel.bor_sl hm).1 hcu
   refine (CRel.bor_sl hm).2 ⟨ad', cap', g1, g2, g3, by rw [(hz r).1]; exact g4, by rw [(hz r).2]; exact g5, fun e1 e2 => ?_⟩
   rw [(hz r).1] at e1
   have e3 := hat r j e2
   obtain ⟨ad, len, cap, f1, f2, f3, f4, f4b, f5, f6, f7, ys, f8, f9⟩ := g6 e1 (by rw [← e3]; exact e2)
   exact ⟨ad, len, cap, f1, f2, f3, f4, f4b, f5, f6, f7, ys, by rw [e3]; exact f8, fun e4 => f9 (by rw [← (hz r).2]; exact e4)⟩
  | ea r j hv e i off =>
   obtain ⟨b, o, g1, g2, g3⟩ := hcu
   refine ⟨b, o, g1, by rw [(hz r).1]; exact g2, fun e1 e2 => ?_⟩
   rw [(hz r).1] at e1
   have e3 := hat r j e2
   obtain ⟨ad, len, cap, f1, f2, f3, f4, ys, f5⟩ := g3 e1 (by rw [← e3]; exact e2)
   exact ⟨ad, len, cap, f1, f2, f3, f4, ys, by rw [e3]; exact f5⟩
  | _ => exact hcu
 have hcw : ∀ (c c' : C) (u : Value), CRel K β Z s a w c u → WkC c c' → CRel K β Z s' a w c' u := by
  intro c c' u h1 h2
  rcases h2 with rfl | rfl
  ·exact hcr _ u h1
  ·trivial
 have hcell : ∀ (r : Res) (j e : Nat) (xs : List (List D)), (s' r).v.cells[j]? = some (.own e xs) → (s r).v.cells[j]? = some (.own e xs) := by
  intro r j e xs hc
  obtain ⟨c, h1, h2⟩ := (hall r).cell j _ hc
  rcases h2 with h2 | h2
  ·rw [h1, ← h2]
  ·cases h2
 refine ⟨h.size, h.defers, h.os, h.tape, h.output, h.base, h.frame, h.zin, h.zold, ?_, fun t => SVRel.weak hcw (h.tmps t) (ht t), fun i => SVRel.weak hcw (h.args i) (hall (.arg i)), ?_, ?_, ?_, h.ωok, h.βold⟩
 ·intro b hb'
  rcases h.znew b hb' with g | g | g | ⟨i, j, e, ys, u0, g1, g2, g3⟩
  ·exact .inl g
  ·exact .inr (.inl g)
  ·exact .inr (.inr (.inl g))
  ·exact .inr (.inr (.inr ⟨i, j, e, ys, u0, by rw [ha]; exact g1, g2, g3⟩))
 ·intro k
  have hbx := h.boxes k
  cases hv : (s (.box k)).v with
  | agg cs =>
   have hw := (hb k).1
   rw [hv] at hw
   cases hv' : (s' (.box k)).v with
   | agg cs' =>
    rw [hv'] at hw
    obtain ⟨b, ws, el, lo, hi, g1, g2, g3, g4, g5⟩ := BoxRel.cell h hv
    exact ⟨b, ws, el, lo, hi, g1, g2, g3, g4, All2.comp (fun a b c h1 h2 => hcw b c a h1 h2) g5 hw⟩
   | undef => have := (hb k).2 hv'; rw [hv] at this; cases this
   | one c => rw [hv'] at hw; exact hw.elim
   | tup vs => rw [hv'] at hw; exact hw.elim
  | undef =>
   have hw := (hb k).1
   rw [hv] at hw hbx
   cases hv' : (s' (.box k)).v with
   | undef => exact hbx
   | _ => rw [hv'] at hw; exact hw.elim
  | one c => rw [hv] at hbx; exact hbx.elim
  | tup vs => rw [hv] at hbx; exact hbx.elim
 ·intro r j e xs u1 b1 hr hc hh hb1
  exact h.own r j e xs u1 b1 hr (hcell r j e xs hc) hh hb1
 ·intro i j e xs u1 b1 hc hh hb1
  exact h.argown i j e xs u1 b1 (hcell (.arg i) j e xs hc) hh hb1
end
structure PSE where
 slots : List (Nat × SVE)
 boxes : List (Key × List E)
 frz : List (Nat × Nat)
 dirty : List (Res × Option (List Bool))
def lkT (t : Nat) : List (Nat × SVE) → SVE
 | [] => .undef
 | (u, v) :: r => match t == u with
  | true => v
  | false => lkT t r
def lkB (k : Key) : List (Key × List E) → Option (List E)
 | [] => none
 | (q, v) :: r => match keqb k q with
  | true => some v
  | false => lkB k r
def stM (p : PSE) : List (Res × RVE) := p.slots.map (fun x => (.tmp x.1, { v := x.2 })) ++ p.boxes.map fun x => (.box x.1, { v := .agg x.2 })
def stOf (A : List SVE) (p : PSE) : ESt := { m := stM p, args := A, frz := p.frz, dirty := p.dirty }
def cPS (A : List SVE) (p : PSE) : PS := { slots := p.slots.map fun x => (x.1, cSV x.2), boxes := p.boxes.map fun x => (x.1, cEs x.2), args := (frzArgsE p.frz A).map cSV }
theorem lkR_append (r : Res) : ∀ (l m : List (Res × RVE)), (∀ x ∈ l, reqb r x.1 = false) → lkR r (l ++ m) = lkR r m
 | [], m, _ => rfl
 | (q, x) :: l, m, h => by
  simp only [List.cons_append, lkR]
  rw [h (q, x) (List.mem_cons_self ..)]
  exact lkR_append r l m fun y hy => h y (List.mem_cons_of_mem _ hy)
theorem stOf_tmp (A : List SVE) (p : PSE) (t : Nat) : (stOf A p).get (.tmp t) = { v := lkT t p.slots } := by
 show lkR (.tmp t) (p.slots.map (fun x => (.tmp x.1, { v := x.2 })) ++ p.boxes.map fun x => (.box x.1, { v := .agg x.2 })) = _
 induction p.slots with
 | nil =>
  induction p.boxes with
  | nil => rfl
  | cons b r ih => exact ih
 | cons x r ih =>
  simp only [List.map_cons, List.cons_append, lkR, reqb, lkT]
  cases t == x.1 with
  | true => rfl
  | false => exact ih
theorem stOf_box (A : List SVE) (p : PSE) (k : Key) : (stOf A p).get (.box k) = { v := match lkB k p.boxes with | some cs => .agg cs | none => .undef } := by
 show lkR (.box k) (p.slots.map (fun x => (.tmp x.1, { v := x.2 })) ++ p.boxes.map fun x => (.box x.1, { v := .agg x.2 })) = _
 rw [lkR_append _ _ _ (by
  intro x hx
  obtain ⟨y, _, rfl⟩ := List.mem_map.1 hx
  rfl)]
 induction p.boxes with
 | nil => rfl
 | cons x r ih =>
  simp only [List.map_cons, lkR, reqb, lkB]
  cases keqb k x.1 with
  | true => rfl
  | false => exact ih
theorem cPS_tmp (A : List SVE) (p : PSE) (t : Nat) : ((cPS A p).st (.tmp t)).v = cSV (lkT t p.slots) := by
 show (lk t (p.slots.map fun x => (x.1, cSV x.2))).getD .undef = _
 induction p.slots with
 | nil => rfl
 | cons x r ih =>
  simp only [List.map_cons, lk, lkT]
  by_cases h : t = x.1
  ·rw [if_pos h, show (t == x.1) = true by simpa using h]; rfl
  ·rw [if_neg h, show (t == x.1) = false by simpa using h]; exact ih
theorem cPS_box (A : List SVE) (p : PSE) (k : Key) : ((cPS A p).st (.box k)).v = match lkB k p.boxes with | some cs => .agg (cEs cs) | none => .undef := by
 show (match lkK k (p.boxes.map fun x => (x.1, cEs x.2)) with | some cs => SV.agg cs | none => .undef) = _
 induction p.boxes with
 | nil => rfl
 | cons x r ih =>
  simp only [List.map_cons, lkK, lkB]
  by_cases h : k = x.1
  ·rw [if_pos h, (keqb_iff k x.1).2 h]
  ·rw [if_neg h, show keqb k x.1 = false by cases hb : keqb k x.1 <;> first | rfl | exact absurd ((keqb_iff k x.1).1 hb) h]; exact ih
theorem cPS_arg (A : List SVE) (p : PSE) (i : Nat) : ((cPS A p).st (.arg i)).v = cSV ((frzArgsE p.frz A).getD i .undef) := getD_map cSV _ i .undef
theorem cSt_stOf (A : List SVE) (p : PSE) : cSt (stOf A p) = (cPS A p).st := by
 have ext : ∀ (x y : RV), x.hv = y.hv → x.cv = y.cv → x.v = y.v → x = y := by
  intro x y h1 h2 h3; cases x; cases y; simp only at h1 h2 h3; subst h1 h2 h3; rfl
 funext r
 cases r with
 | tmp t =>
  refine ext _ _ ?_ ?_ ?_ <;> simp only [cSt, stOf_tmp, cRV]
  ·rfl
  ·rfl
  ·exact (cPS_tmp A p t).symm
 | box k =>
  refine ext _ _ ?_ ?_ ?_ <;> simp only [cSt, stOf_box, cRV]
  ·rfl
  ·rfl
  ·rw [cPS_box]; cases lkB k p.boxes <;> rfl
 | arg i =>
  refine ext _ _ rfl rfl ?_
  exact (cPS_arg A p i).symm
theorem frzArgsE_length : ∀ (l : List (Nat × Nat)) (A : List SVE), (frzArgsE l A).length = A.length
 | [], A => rfl
 | (i, j) :: r, A => by simp only [frzArgsE]; rw [frzArgsE_length r]; rw [lset_eq]; simp
theorem cPS_args_length (A : List SVE) (p : PSE) : (cPS A p).args.length = A.length := by simp [cPS, frzArgsE_length]
def stlE (s : ESt) (bk : List Key) : E → E
 | .l (.bor r j hv cv k) t xs => match (s.get r).hv == hv && (s.get r).cv == cv with
  | true => .l (.bor r j 0 0 k) t xs
  | false => .dead
 | .n (.bor r j hv cv k) t o => match (s.get r).hv == hv && (s.get r).cv == cv with
  | true => .n (.bor r j 0 0 k) t o
  | false => .dead
 | .ea _ _ _ _ _ _ => .dead
 | .gone _ => .dead
 | .ptr k off => match bk.any (keqb k) with
  | true => .ptr k off
  | false => .dead
 | .clo f caps => match caps.all (fun p => bk.any (keqb p.1)) with
  | true => .clo f caps
  | false => .dead
 | c => c
def stlSVE (s : ESt) (bk : List Key) : SVE → SVE
 | .one c => .one (stlE s bk c)
 | .agg cs => .agg (cs.map (stlE s bk))
 | .tup vs => .tup (vs.map fun p => (p.1, p.2.map (stlE s bk)))
 | .undef => .undef
def finSlotsE (s : ESt) (bk : List Key) : List Nat → List (Nat × SVE)
 | [] => []
 | t :: ts => match (s.get (.tmp t)).v with
  | .undef => finSlotsE s bk ts
  | v => (t, stlSVE s bk v) :: finSlotsE s bk ts
def finBoxesE (s : ESt) (bk : List Key) : List Key → List (Key × List E)
 | [] => []
 | k :: ks => match (s.get (.box k)).v with
  | .agg cs => (k, cs.map (stlE s bk)) :: finBoxesE s bk ks
  | _ => finBoxesE s bk ks
def finE (s : ESt) (keys : List Nat) (bk : List Key) : PSE := { slots := finSlotsE s bk keys, boxes := finBoxesE s bk bk, frz := s.frz, dirty := s.dirty }
theorem any_keqb (k : Key) (bk : List Key) : bk.any (keqb k) = bk.contains k := by
 induction bk with
 | nil => rfl
 | cons q bk ih =>
  simp only [List.any_cons, List.contains_cons, ih]
  congr 1
  cases h : keqb k q with
  | true => rw [(keqb_iff k q).1 h]; simp
  | false => symm; simp only [beq_eq_false_iff_ne]; rintro rfl; rw [(keqb_iff k k).2 rfl] at h; cases h
theorem stlE_wk (s : ESt) (bk : List Key) (c : E) : WkC (stl (cSt s) bk (cE c)) (cE (stlE s bk c)) := by
 have bor : ∀ (r : Res) (j hv cv k : Nat) (t : Ty) (xs : List t.T), WkC (stl (cSt s) bk (C.bor r j hv cv t.e k (xs.map (encR t)))) (cE (match (s.get r).hv == hv && (s.get r).cv == cv with
  | true => E.l (.bor r j 0 0 k) t xs
  | false => .dead)) := by
  intro r j hv cv k t xs
  cases h : (s.get r).hv == hv && (s.get r).cv == cv with
  | false => exact .inr rfl
  | true =>
   simp only [Bool.and_eq_true, beq_iff_eq] at h
   left
   simp only [stl]
   rw [if_pos (show (cSt s r).hv = hv ∧ (cSt s r).cv = cv from h)]
   rfl
 cases c with
 | l m t xs =>
  cases m with
  | bor r j hv cv k => exact bor r j hv cv k t xs
  | _ => exact .inl rfl
 | n m t o =>
  cases m with
  | bor r j hv cv k =>
   cases o with
   | none =>
    simp only [stlE]
    cases (s.get r).hv == hv && (s.get r).cv == cv with
    | true => exact .inl rfl
    | false => exact .inr rfl
   | some xs =>
    have := bor r j hv cv k t xs
    simp only [stlE]
    revert this
    cases (s.get r).hv == hv && (s.get r).cv == cv with
    | true => exact fun h => h
    | false => exact fun h => h
  | _ => cases o <;> exact .inl rfl
 | ptr k off =>
  simp only [stlE, any_keqb, cE, stl]
  cases h : bk.contains k with
  | true => left; simp only [if_true]
  | false => exact .inr rfl
 | clo f caps =>
  have e : (caps.all fun p => bk.any (keqb p.1)) = caps.all fun p => bk.contains p.1 := by congr 1; funext p; exact any_keqb _ _
  simp only [stlE, e, cE, stl]
  cases h : caps.all fun p => bk.contains p.1 with
  | true => left; simp only [if_true]
  | false => exact .inr rfl
 | ea => exact .inr rfl
 | gone b => exact .inr rfl
 | _ => exact .inl rfl
theorem stlsE_wk (s : ESt) (bk : List Key) : ∀ (cs : List E), All2 WkC (stls (cSt s) bk (cEs cs)) (cEs (cs.map (stlE s bk)))
 | [] => trivial
 | c :: cs => ⟨stlE_wk s bk c, stlsE_wk s bk cs⟩
theorem stlSVE_wk (s : ESt) (bk : List Key) (v : SVE) : WkSV (stlSV (cSt s) bk (cSV v)) (cSV (stlSVE s bk v)) := by
 cases v with
 | one c => exact stlE_wk s bk c
 | agg cs => exact stlsE_wk s bk cs
 | tup vs =>
  show All2 _ (stlTup (cSt s) bk (cTup vs)) (cTup (vs.map fun p => (p.1, p.2.map (stlE s bk))))
  induction vs with
  | nil => trivial
  | cons p vs ih => exact ⟨⟨rfl, stlsE_wk s bk p.2⟩, ih⟩
 | undef => trivial
theorem lkT_finSlots (s : ESt) (bk : List Key) (t : Nat) : ∀ (ks : List Nat), lkT t (finSlotsE s bk ks) = if t ∈ ks then stlSVE s bk (s.get (.tmp t)).v else .undef
 | [] => rfl
 | u :: ks => by
  have ih := lkT_finSlots s bk t ks
  simp only [finSlotsE]
  by_cases htu : t = u
  ·subst htu
   simp only [List.mem_cons, true_or, if_true]
   cases hv : (s.get (.tmp t)).v with
   | undef =>
    simp only
    rw [ih, hv]
    split <;> rfl
   | _ => simp [lkT]
  ·have e : (t == u) = false := by simpa using htu
   have : lkT t (match (s.get (.tmp u)).v with | .undef => finSlotsE s bk ks | v => (u, stlSVE s bk v) :: finSlotsE s bk ks) = lkT t (finSlotsE s bk ks) := by
    cases (s.get (.tmp u)).v <;> simp [lkT, e]
   rw [this, ih]
   simp [htu]
theorem lkB_finBoxes (s : ESt) (bk : List Key) (k : Key) : ∀ (ks : List Key), lkB k (finBoxesE s bk ks) = if k ∈ ks then (match (s.get (.box k)).v with | .agg cs => some (cs.map (stlE s bk)) | _ => none) else none
 | [] => rfl
 | u :: ks => by
  have ih := lkB_finBoxes s bk k ks
  simp only [finBoxesE]
  by_cases htu : k = u
  ·subst htu
   simp only [List.mem_cons, true_or, if_true]
   cases hv : (s.get (.box k)).v with
   | agg cs => simp only [lkB]; rw [(keqb_iff k k).2 rfl]
   | _ => simp only; rw [ih, hv]; split <;> rfl
  ·have e : keqb k u = false := by cases h : keqb k u <;> first | rfl | exact absurd ((keqb_iff k u).1 h) htu
   have : lkB k (match (s.get (.box u)).v with | .agg cs => (u, cs.map (stlE s bk)) :: finBoxesE s bk ks | _ => finBoxesE s bk ks) = lkB k (finBoxesE s bk ks) := by
    cases (s.get (.box u)).v <;> simp [lkB, e]
   rw [this, ih]
   simp [htu]
def argCOk (bk : List Key) : E → Bool
 | .i _ _ | .b _ | .tt | .ff | .s _ | .nil | .nul _ | .l .data _ _ | .l .own _ _ | .n .data _ _ | .n .own _ _ => true
 | .ptr k _ => bk.any (keqb k)
 | .clo _ caps => caps.all fun p => bk.any (keqb p.1)
 | _ => false
def argsOkE (bk : List Key) (A : List SVE) : Bool := A.all fun v => v.cells.all (argCOk bk)
theorem argC_stl {bk : List Key} {c : E} (h : argCOk bk c = true) (s : St) : stl s bk (cE c) = cE c := by
 cases c with
 | l m t xs => cases m <;> first | rfl | cases h
 | n m t o => cases m <;> cases o <;> first | rfl | cases h
 | ptr k off =>
  simp only [argCOk, any_keqb] at h
  simp only [cE, stl, h, if_true]
 | clo f caps =>
  have e : (caps.all fun p => bk.any (keqb p.1)) = caps.all fun p => bk.contains p.1 := by congr 1; funext p; exact any_keqb _ _
  simp only [argCOk, e] at h
  simp only [cE, stl, h, if_true]
 | ea => cases h
 | da => cases h
 | gone b => cases h
 | dead => rfl
 | _ => rfl
theorem argCs_stl {bk : List Key} {cs : List E} (h : cs.all (argCOk bk) = true) (s : St) : stls s bk (cEs cs) = cEs cs := by
 induction cs with
 | nil => rfl
 | cons c cs ih =>
  simp only [List.all_cons, Bool.and_eq_true] at h
  show stl s bk (cE c) :: stls s bk (cEs cs) = _
  rw [argC_stl h.1 s, ih h.2]
  rfl
theorem argSV_stl {bk : List Key} {v : SVE} (h : v.cells.all (argCOk bk) = true) (s : St) : stlSV s bk (cSV v) = cSV v := by
 cases v with
 | one c => simp only [SVE.cells, List.all_cons, List.all_nil, Bool.and_true] at h; show SV.one _ = _; rw [argC_stl h s]; rfl
 | agg cs => show SV.agg _ = _; rw [argCs_stl (cs := cs) h s]; rfl
 | tup vs =>
  show SV.tup (stlTup s bk (cTup vs)) = .tup (cTup vs)
  congr 1
  simp only [SVE.cells] at h
  induction vs with
  | nil => rfl
  | cons p vs ih =>
   simp only [List.flatMap_cons, List.all_append, Bool.and_eq_true] at h
   show (p.1, stls s bk (cEs p.2)) :: stlTup s bk (cTup vs) = _
   rw [argCs_stl h.1 s, ih h.2]
   rfl
 | undef => rfl
theorem frz1_ok {bk : List Key} {v : SVE} (h : v.cells.all (argCOk bk) = true) (j : Nat) : (frz1E v j).cells.all (argCOk bk) = true := by
 have setC : ∀ (v : SVE) (c : E), v.cells.all (argCOk bk) = true → argCOk bk c = true → (v.setCell j c).cells.all (argCOk bk) = true := by
  intro v c hv hc
  have lsetOk : ∀ (cs : List E) (j : Nat), cs.all (argCOk bk) = true → (lset cs j c).all (argCOk bk) = true := by
   intro cs
   induction cs with
   | nil => intro j h; simp [lset]
   | cons x cs ih =>
    intro j h
    simp only [List.all_cons, Bool.and_eq_true] at h
    cases j with
    | zero => simp only [lset, List.all_cons, Bool.and_eq_true]; exact ⟨hc, h.2⟩
    | succ j => simp only [lset, List.all_cons, Bool.and_eq_true]; exact ⟨h.1, ih j h.2⟩
  cases v with
  | one x => simp only [SVE.setCell]; split <;> first | (simp only [SVE.cells, List.all_cons, List.all_nil, Bool.and_true]; exact hc) | exact hv
  | agg cs => exact lsetOk cs j hv
  | tup vs =>
   simp only [SVE.setCell, SVE.cells] at hv ⊢
   induction vs generalizing j with
   | nil => rfl
   | cons p vs ih =>
    obtain ⟨b, cs⟩ := p
    simp only [List.flatMap_cons, List.all_append, Bool.and_eq_true] at hv
    simp only [setTupE]
    split
    ·simp only [List.flatMap_cons, List.all_append, Bool.and_eq_true]; exact ⟨lsetOk cs j hv.1, hv.2⟩
    ·simp only [List.flatMap_cons, List.all_append, Bool.and_eq_true]; exact ⟨hv.1, ih _ hv.2⟩
  | undef => exact hv
 unfold frz1E
 split
 ·exact setC v _ h rfl
 ·exact setC v _ h rfl
 ·exact h
theorem frzArgs_ok {bk : List Key} : ∀ (l : List (Nat × Nat)) (A : List SVE), argsOkE bk A = true → argsOkE bk (frzArgsE l A) = true
 | [], A, h => h
 | (i, j) :: r, A, h => by
  simp only [frzArgsE]
  refine frzArgs_ok r _ ?_
  have hA : ∀ v ∈ A, v.cells.all (argCOk bk) = true := List.all_eq_true.1 h
  rw [lset_eq]
  refine List.all_eq_true.2 fun v hv => ?_
  rcases List.mem_or_eq_of_mem_set hv with hv | rfl
  ·exact hA v hv
  ·refine frz1_ok ?_ j
   rw [List.getD_eq_getElem?_getD]
   cases hi : A[i]? with
   | none => rfl
   | some x => exact hA x (List.mem_of_getElem? hi)
section
variable {K : Ctx} {A : List SVE} {a : Act} {w : World}
theorem finE_rel {s : ESt} (hargs : s.args = A) (hA : K.argv.size = A.length) {keys : List Nat} {bk : List Key} (hok : argsOkE bk A = true) (hin : ∀ k b, K.β0 k = some b → k ∈ bk) (h : Vs.Good K (cSt s) a w) : PRel K (cPS A (finE s keys bk)) a w := by
 obtain ⟨β, ω, Z, h⟩ := h
 obtain ⟨β', h'⟩ := h.fin keys bk hA.symm hin
 refine ⟨⟨β', ω, Z, Rel.weak h' (fun r => ⟨(ps_hv _ r).1.trans (ps_hv _ r).1.symm, (ps_hv _ r).2.trans (ps_hv _ r).2.symm⟩) (fun t => ?_) (fun k => ?_) fun i => ?_⟩, (cPS_args_length A _).trans hA.symm⟩
 ·rw [cPS_tmp, fin_tmp]
  simp only [finE]
  rw [lkT_finSlots]
  split
  ·exact stlSVE_wk s bk _
  ·trivial
 ·rw [cPS_box, fin_box]
  simp only [finE]
  rw [lkB_finBoxes]
  have hv : (cSt s (.box k)).v = cSV (s.get (.box k)).v := rfl
  split
  ·cases hb : (s.get (.box k)).v with
   | agg cs => rw [hv, hb]; exact ⟨stlsE_wk s bk cs, fun h => by cases h⟩
   | _ => rw [hv, hb]; exact ⟨trivial, fun _ => rfl⟩
  ·exact ⟨trivial, fun _ => rfl⟩
 ·rw [cPS_arg, fin_arg]
  have hs : (cSt s (.arg i)).v = cSV ((frzArgsE s.frz A).getD i .undef) := by rw [← hargs]; rfl
  have hall := frzArgs_ok s.frz A hok
  split
  ·rw [hs]
   refine (argSV_stl ?_ _).symm
   show (((frzArgsE s.frz A).getD i .undef).cells.all (argCOk bk)) = true
   rw [List.getD_eq_getElem?_getD]
   cases hi : (frzArgsE s.frz A)[i]? with
   | none => rfl
   | some x => exact List.all_eq_true.1 hall x (List.mem_of_getElem? hi)
  ·rename_i hi
   show cSV _ = SV.undef
   rw [List.getD_eq_getElem?_getD, List.getElem?_eq_none (by rw [frzArgsE_length]; omega)]
   rfl
end
end Go.Ve
namespace Go.Ve
open Go.Vs
abbrev Dirty := List (Res × Option (List Bool))
def tch (r : Res) (d : Dirty) : Bool := d.any fun e => reqb r e.1
def whole (r : Res) (d : Dirty) : Bool := d.any fun e => reqb r e.1 && e.2.isNone
def part (r : Res) (j : Nat) (d : Dirty) : Bool := d.any fun e => reqb r e.1 && (match e.2 with | some m => m.getD j false | none => true)
def nrm : E → E
 | .l (.bor q j _ _ k) t xs => .l (.bor q j 0 0 k) t xs
 | .n (.bor q j _ _ k) t o => .n (.bor q j 0 0 k) t o
 | c => c
theorem nrm_nrm (c : E) : nrm (nrm c) = nrm c := by
 cases c with
 | l m t xs => cases m <;> rfl
 | n m t o => cases m <;> rfl
 | _ => rfl
def WkE (c c' : E) : Prop := c' = c ∨ c' = nrm c ∨ c' = .dead
theorem WkE.same (c : E) : WkE c c := .inl rfl
theorem WkE.trans {a b c : E} (h : WkE a b) (h' : WkE b c) : WkE a c := by
 rcases h with rfl | rfl | rfl
 ·exact h'
 ·rcases h' with rfl | rfl | rfl
  ·exact .inr (.inl rfl)
  ·exact .inr (.inl (nrm_nrm a))
  ·exact .inr (.inr rfl)
 ·rcases h' with rfl | rfl | rfl <;> exact .inr (.inr rfl)
def usable : E → Bool
 | .dead => false
 | .l (.bor _ _ hv cv _) _ _ => hv == 0 && cv == 0
 | .n (.bor _ _ hv cv _) _ _ => hv == 0 && cv == 0
 | _ => true
theorem usable_nrm {c : E} (h : usable c = true) : nrm c = c := by
 cases c with
 | l m t xs =>
  cases m with
  | bor q j hv cv k => simp only [usable, Bool.and_eq_true, beq_iff_eq] at h; obtain ⟨rfl, rfl⟩ := h; rfl
  | _ => rfl
 | n m t xs =>
  cases m with
  | bor q j hv cv k => simp only [usable, Bool.and_eq_true, beq_iff_eq] at h; obtain ⟨rfl, rfl⟩ := h; rfl
  | _ => rfl
 | _ => rfl
theorem usable_wk {c a : E} (h : WkE c a) (ha : usable a = true) : a = nrm c := by
 rcases h with rfl | rfl | rfl
 ·exact (usable_nrm ha).symm
 ·rfl
 ·cases ha
theorem usable_eq {c a b : E} (h : WkE c a) (h' : WkE c b) (ha : usable a = true) (hb : usable b = true) : a = b := (usable_wk h ha).trans (usable_wk h' hb).symm
def WkS : SVE → SVE → Prop
 | _, .undef => True
 | .one c, .one c' => WkE c c'
 | .agg cs, .agg cs' => All2 WkE cs cs'
 | .tup vs, .tup vs' => All2 (fun p q => p.1 = q.1 ∧ All2 WkE p.2 q.2) vs vs'
 | _, _ => False
theorem All2.same {α : Type} {R : α → α → Prop} (h : ∀ a, R a a) : ∀ (l : List α), All2 R l l
 | [] => trivial
 | a :: l => ⟨h a, All2.same h l⟩
theorem WkS.same (v : SVE) : WkS v v := by
 cases v with
 | one c => exact WkE.same c
 | agg cs => exact All2.same WkE.same cs
 | tup vs => exact All2.same (fun p => ⟨rfl, All2.same WkE.same p.2⟩) vs
 | undef => trivial
theorem WkS.trans {a b c : SVE} (h : WkS a b) (h' : WkS b c) : WkS a c := by
 cases c with
 | undef => trivial
 | one z => cases b <;> first | exact h'.elim | (cases a <;> first | exact h.elim | exact WkE.trans h h')
 | agg z => cases b <;> first | exact h'.elim | (cases a <;> first | exact h.elim | exact All2.comp (R := WkE) (S := WkE) (U := WkE) (fun _ _ _ h1 h2 => WkE.trans h1 h2) h h')
 | tup z => cases b <;> first | exact h'.elim | (cases a <;> first | exact h.elim | exact All2.comp (fun _ _ _ h1 h2 => ⟨h1.1.trans h2.1, All2.comp (R := WkE) (S := WkE) (U := WkE) (fun _ _ _ h1 h2 => WkE.trans h1 h2) h1.2 h2.2⟩) h h')
def WkB (k : Key) (d : Dirty) (v v' : SVE) : Prop :=
 v' = .undef ∨ ∃ cs cs', v = .agg cs ∧ v' = .agg cs' ∧ cs.length = cs'.length ∧ ∀ j, part (.box k) j d = false → ∀ c', cs'[j]? = some c' → ∃ c, cs[j]? = some c ∧ WkE c c'
def Keep (d : Dirty) (s s' : ESt) : Prop :=
 (∀ t, tch (.tmp t) d = false → WkS (s.get (.tmp t)).v (s'.get (.tmp t)).v) ∧
 (∀ k, whole (.box k) d = false → WkB k d (s.get (.box k)).v (s'.get (.box k)).v)
theorem tch_append (r : Res) (l d : Dirty) : tch r (l ++ d) = (tch r l || tch r d) := by simp [tch, List.any_append]
theorem whole_append (r : Res) (l d : Dirty) : whole r (l ++ d) = (whole r l || whole r d) := by simp [whole, List.any_append]
theorem part_append (r : Res) (j : Nat) (l d : Dirty) : part r j (l ++ d) = (part r j l || part r j d) := by simp [part, List.any_append]
def IsBox (s : ESt) : Prop := ∀ k, (s.get (.box k)).v = .undef ∨ ∃ cs, (s.get (.box k)).v = .agg cs
theorem WkB.same {k : Key} {d : Dirty} {v : SVE} (h : v = .undef ∨ ∃ cs, v = .agg cs) : WkB k d v v := by
 rcases h with h | ⟨cs, h⟩
 ·exact .inl h
 ·exact .inr ⟨cs, cs, h, h, rfl, fun j _ c hc => ⟨c, hc, WkE.same c⟩⟩
theorem Keep.more {d l : Dirty} {s s' : ESt} (h : Keep d s s') : Keep (l ++ d) s s' := by
 refine ⟨fun t ht => h.1 t ?_, fun k hk => ?_⟩
 ·rw [tch_append, Bool.or_eq_false_iff] at ht; exact ht.2
 ·rw [whole_append, Bool.or_eq_false_iff] at hk
  rcases h.2 k hk.2 with h | ⟨cs, cs', g1, g2, g3, g4⟩
  ·exact .inl h
  ·refine .inr ⟨cs, cs', g1, g2, g3, fun j hj => g4 j ?_⟩
   rw [part_append, Bool.or_eq_false_iff] at hj
   exact hj.2
theorem Keep.trans {d : Dirty} {s s1 s2 : ESt} (h : Keep d s s1) (h' : Keep d s1 s2) : Keep d s s2 := by
 refine ⟨fun t ht => WkS.trans (h.1 t ht) (h'.1 t ht), fun k hk => ?_⟩
 rcases h'.2 k hk with g | ⟨ds, ds', f1, f2, f3, f4⟩
 ·exact .inl g
 ·rcases h.2 k hk with g | ⟨cs, cs', g1, g2, g3, g4⟩
  ·rw [g] at f1; cases f1
  ·rw [g2] at f1
   cases f1
   refine .inr ⟨cs, ds', g1, f2, g3.trans f3, fun j hj c' hc' => ?_⟩
   obtain ⟨c1, e1, e2⟩ := f4 j hj c' hc'
   obtain ⟨c0, e3, e4⟩ := g4 j hj c1 e1
   exact ⟨c0, e3, WkE.trans e4 e2⟩
theorem reqb_ne {r q : Res} (h : reqb q r = false) : q ≠ r := by rintro rfl; rw [(reqb_iff q q).2 rfl] at h; cases h
theorem Keep.of_get {d : Dirty} {s s' : ESt} (hb : IsBox s) (h : ∀ r, r.isArg = false → tch r d = false → s'.get r = s.get r) (hp : ∀ k, whole (.box k) d = false → tch (.box k) d = true → WkB k d (s.get (.box k)).v (s'.get (.box k)).v) : Keep d s s' := by
 refine ⟨fun t ht => by rw [h (.tmp t) rfl ht]; exact WkS.same _, fun k hk => ?_⟩
 cases ht : tch (.box k) d with
 | false => rw [h (.box k) rfl ht]; exact WkB.same (hb k)
 | true => exact hp k hk ht
theorem overE_get : ∀ (cs : List E) (os : List (Option E)) (j : Nat), (os.map Option.isSome).getD j false = false → (overE cs os)[j]? = cs[j]?
 | [], os, j, _ => by simp [overE]
 | c :: cs, [], j, _ => by simp [overE]
 | c :: cs, o :: os, 0, h => by
  cases o with
  | none => simp [overE]
  | some x => simp at h
 | c :: cs, o :: os, j + 1, h => by
  simp only [overE, List.getElem?_cons_succ]
  exact overE_get cs os j (by simpa using h)
theorem overE_length : ∀ (cs : List E) (os : List (Option E)), (overE cs os).length = cs.length
 | [], os => by simp [overE]
 | c :: cs, [] => by simp [overE]
 | c :: cs, o :: os => by simp [overE, overE_length cs os]
def Step (s s' : ESt) : Prop := IsBox s' ∧ s'.args = s.args ∧ ∃ l, s'.dirty = l ++ s.dirty ∧ Keep s'.dirty s s'
theorem Step.trans {s s1 s2 : ESt} (h : Step s s1) (h' : Step s1 s2) : Step s s2 := by
 obtain ⟨b1, a1, l1, e1, k1⟩ := h
 obtain ⟨b2, a2, l2, e2, k2⟩ := h'
 refine ⟨b2, a2.trans a1, l2 ++ l1, by rw [e2, e1, List.append_assoc], Keep.trans ?_ k2⟩
 rw [e2]
 exact k1.more
theorem Step.same {s : ESt} (h : IsBox s) : Step s s := ⟨h, rfl, [], rfl, Keep.of_get h (fun _ _ _ => rfl) fun k _ _ => WkB.same (h k)⟩
theorem Step.put {s : ESt} (h : IsBox s) {r : Res} {x : RVE} (hr : r.isArg = false) (hx : (∃ t, r = .tmp t) ∨ ∃ cs, x.v = .agg cs) : Step s (s.put r x) := by
 refine ⟨fun k => ?_, rfl, [(r, none)], rfl, Keep.of_get h (fun q _ hd => ?_) fun k h1 h2 => ?_⟩
 ·rw [get_put s x hr]
  split
  ·rename_i hk
   rcases hx with ⟨t, rfl⟩ | ⟨cs, hx⟩
   ·cases hk
   ·exact .inr ⟨cs, hx⟩
  ·exact h k
 ·rw [get_put s x hr, if_neg]
  have : tch q ((r, none) :: s.dirty) = (reqb q r || tch q s.dirty) := rfl
  have hd : tch q ((r, none) :: s.dirty) = false := hd
  rw [this, Bool.or_eq_false_iff] at hd
  exact reqb_ne hd.1
 ·rw [get_put s x hr]
  have h1 : whole (.box k) ((r, none) :: s.dirty) = false := h1
  have e1 : whole (.box k) ((r, none) :: s.dirty) = ((reqb (.box k) r && true) || whole (.box k) s.dirty) := rfl
  rw [e1, Bool.or_eq_false_iff, Bool.and_true] at h1
  rw [if_neg (reqb_ne h1.1)]
  exact WkB.same (h k)
theorem Step.know {s : ESt} (h : IsBox s) (r : Res) (b : Bool) : Step s (s.know r b) := by
 cases r with
 | tmp t =>
  have := Step.put (s := s) h (r := .tmp t) (x := { lkR (.tmp t) s.m with v := .one (kb b) }) rfl (.inl ⟨t, rfl⟩)
  exact this
 | _ => exact Step.same h
theorem Step.frz {s : ESt} (h : IsBox s) (i j : Nat) : Step s { s with frz := s.frz ++ [(i, j)], dirty := (.arg i, none) :: s.dirty } :=
 ⟨fun k => h k, rfl, [(.arg i, none)], rfl, Keep.of_get h (fun q hq _ => by cases q <;> first | rfl | cases hq) fun k _ _ => WkB.same (h k)⟩
theorem Step.wr {s : ESt} (h : IsBox s) (k : Key) (os : List (Option E)) : Step s (s.wr k os) := by
 rcases h k with hu | ⟨cs, hcs⟩
 ·
  have hu' : (lkR (.box k) s.m).v = .undef := hu
  have hg : ∀ q, q.isArg = false → ((s.wr k os).get q).v = (s.get q).v ∧ (reqb q (.box k) = false → (s.wr k os).get q = s.get q) := by
   intro q hq
   have key : ∀ q, lkR q (s.wr k os).m = if q = .box k then { hv := (lkR (.box k) s.m).hv + 1, cv := (lkR (.box k) s.m).cv, v := match (lkR (.box k) s.m).v with | .agg cs => .agg (overE cs os) | v => v } else lkR q s.m := fun q => lkR_updR (.box k) _ q s.m
   have : (s.wr k os).get q = lkR q (s.wr k os).m := by cases q <;> first | rfl | cases hq
   have e2 : s.get q = lkR q s.m := by cases q <;> first | rfl | cases hq
   rw [this, key, e2]
   split
   ·rename_i e; subst e; rw [hu']; exact ⟨rfl, fun h => by rw [(reqb_iff _ _).2 rfl] at h; cases h⟩
   ·exact ⟨rfl, fun _ => rfl⟩
  refine ⟨fun q => ?_, rfl, [(.box k, some (os.map Option.isSome))], rfl, Keep.of_get h (fun q hq hd => ?_) fun q h1 h2 => ?_⟩
  ·rw [(hg (.box q) rfl).1]; exact h q
  ·have e1 : tch q (s.wr k os).dirty = (reqb q (.box k) || tch q s.dirty) := rfl
   rw [e1, Bool.or_eq_false_iff] at hd
   exact (hg q hq).2 hd.1
  ·rw [(hg (.box q) rfl).1]; exact WkB.same (h q)
 ·refine ⟨fun q => ?_, rfl, [(.box k, some (os.map Option.isSome))], rfl, Keep.of_get h (fun q _ hd => ?_) fun q h1 h2 => ?_⟩
  ·rw [get_wr s k os _ hcs]
   split
   ·exact .inr ⟨_, rfl⟩
   ·exact h q
  ·rw [get_wr s k os _ hcs, if_neg]
   have e1 : tch q (s.wr k os).dirty = (reqb q (.box k) || tch q s.dirty) := rfl
   rw [e1, Bool.or_eq_false_iff] at hd
   exact reqb_ne hd.1
  ·rw [get_wr s k os _ hcs]
   split
   ·rename_i e
    cases e
    refine .inr ⟨cs, overE cs os, hcs, rfl, (overE_length cs os).symm, fun j hj c' hc' => ⟨c', ?_, WkE.same c'⟩⟩
    have e1 : part (.box k) j (s.wr k os).dirty = ((reqb (.box k) (.box k) && (os.map Option.isSome).getD j false) || part (.box k) j s.dirty) := rfl
    rw [e1, Bool.or_eq_false_iff, (reqb_iff _ _).2 rfl, Bool.true_and] at hj
    rw [← overE_get cs os j hj.1]
    exact hc'
   ·exact WkB.same (h q)
theorem both_step {α : Type} (p : PE α) : ∀ (s : ESt), IsBox s → (p.both s).each fun x => Step s x.2.1 := by
 induction p with
 | ret a => intro s h; exact Step.same h
 | fail => intro s h; trivial
 | br c t e iht ihe => intro s h; exact ⟨iht s h, ihe s h⟩
 | call d o k ih => intro s h; exact fun x => ih x s h
 | get r k ih => intro s h; simp only [PE.both, Tr.each_map]; exact ih _ s h
 | put r x k ih =>
  intro s h
  simp only [PE.both]
  cases hp : putOk r x with
  | false => trivial
  | true =>
   simp only [Tr.each_map]
   have hr : r.isArg = false := by cases r <;> first | rfl | (simp [putOk] at hp)
   have hx : (∃ t, r = .tmp t) ∨ ∃ cs, x.v = .agg cs := by
    cases r with
    | tmp t => exact .inl ⟨t, rfl⟩
    | box k =>
     cases hv : x.v with
     | agg cs => exact .inr ⟨cs, rfl⟩
     | _ => simp [putOk, hv] at hp
    | arg i => cases hr
   have h1 := Step.put h hr hx
   exact Tr.each_mono (fun y hy => Step.trans h1 hy) (ih _ h1.1)
 | frz i j k ih =>
  intro s h
  simp only [PE.both, Tr.each_map]
  have h1 := Step.frz h i j
  exact Tr.each_mono (fun y hy => Step.trans h1 hy) (ih _ h1.1)
 | know r b k ih =>
  intro s h
  have h1 := Step.know h r b
  exact Tr.each_mono (fun y hy => Step.trans h1 hy) (ih _ h1.1)
 | wr q os k ih =>
  intro s h
  simp only [PE.both, Tr.each_map]
  have h1 := Step.wr h q os
  exact Tr.each_mono (fun y hy => Step.trans h1 hy) (ih _ h1.1)
theorem runE_step (cfg : ECfg) (ops : Array Oper) : ∀ (l : List Oper) (s : ESt), IsBox s → (runE cfg ops l s).each fun x => Step s x.1
 | [], s, h => Step.same h
 | o :: r, s, h => by
  simp only [runE]
  rw [Tr.each_bind]
  refine Tr.each_mono ?_ (both_step (stepE cfg ops o) s h)
  rintro ⟨a, s', f, g⟩ h1
  rw [Tr.each_bind]
  refine Tr.each_mono ?_ (runE_step cfg ops r s' h1.1)
  rintro ⟨s'', l⟩ h2
  exact Step.trans h1 h2
theorem isBox_stOf (A : List SVE) (p : PSE) : IsBox (stOf A p) := by
 intro k
 rw [stOf_box]
 cases lkB k p.boxes with
 | none => exact .inl rfl
 | some cs => exact .inr ⟨cs, rfl⟩
theorem stlE_wkE (s : ESt) (bk : List Key) (c : E) : WkE c (stlE s bk c) := by
 have dd : ∀ (b : Bool) (x y : E), (x = y ∨ x = nrm y) → WkE y (match b with | true => x | false => .dead) := by
  intro b x y h
  cases b with
  | true => rcases h with rfl | rfl <;> first | exact .inl rfl | exact .inr (.inl rfl)
  | false => exact .inr (.inr rfl)
 cases c with
 | l m t xs => cases m <;> first | exact .inl rfl | exact dd _ _ _ (.inr rfl)
 | n m t xs => cases m <;> first | exact .inl rfl | exact dd _ _ _ (.inr rfl)
 | ptr k off => exact dd _ _ _ (.inl rfl)
 | clo f caps => exact dd _ _ _ (.inl rfl)
 | ea => exact .inr (.inr rfl)
 | gone b => exact .inr (.inr rfl)
 | _ => exact .inl rfl
theorem stlsE_wkE (s : ESt) (bk : List Key) : ∀ (cs : List E), All2 WkE cs (cs.map (stlE s bk))
 | [] => trivial
 | c :: cs => ⟨stlE_wkE s bk c, stlsE_wkE s bk cs⟩
theorem stlSVE_wkS (s : ESt) (bk : List Key) (v : SVE) : WkS v (stlSVE s bk v) := by
 cases v with
 | one c => exact stlE_wkE s bk c
 | agg cs => exact stlsE_wkE s bk cs
 | tup vs =>
  show All2 _ vs (vs.map fun p => (p.1, p.2.map (stlE s bk)))
  induction vs with
  | nil => trivial
  | cons p vs ih => exact ⟨⟨rfl, stlsE_wkE s bk p.2⟩, ih⟩
 | undef => trivial
theorem finE_keep (A : List SVE) (s : ESt) (hb : IsBox s) (keys : List Nat) (bk : List Key) (d : Dirty) : Keep d s (stOf A (finE s keys bk)) := by
 refine ⟨fun t _ => ?_, fun k _ => ?_⟩
 ·rw [stOf_tmp]
  simp only [finE]
  rw [lkT_finSlots]
  split
  ·exact stlSVE_wkS s bk _
  ·trivial
 ·rw [stOf_box]
  simp only [finE]
  rw [lkB_finBoxes]
  rcases hb k with h | ⟨cs, h⟩
  ·rw [h]
   left
   by_cases hk : k ∈ bk
   ·rw [if_pos hk]
   ·rw [if_neg hk]
  ·rw [h]
   by_cases hk : k ∈ bk
   ·rw [if_pos hk]
    refine .inr ⟨cs, _, rfl, rfl, by simp, fun j _ c' hc' => ?_⟩
    rw [List.getElem?_map] at hc'
    cases hc : cs[j]? with
    | none => rw [hc] at hc'; cases hc'
    | some c => rw [hc] at hc'; cases hc'; exact ⟨c, rfl, stlE_wkE s bk c⟩
   ·rw [if_neg hk]; exact .inl rfl
end Go.Ve
/- Two branches seen as one. -/
namespace Go.Ve
open Go.Vs

def mergeBool (c : Bool) (a b : E) : E :=
  match a, b with
  | .tt, .tt => .tt
  | .ff, .ff => .ff
  | .tt, .ff => .b c
  | .ff, .tt => .b (!c)
  | .tt, .b y => .b (c || y)
  | .b x, .ff => .b (c && x)
  | .ff, .b y => .b (!c && y)
  | .b x, .tt => .b (!c || x)
  | .b x, .b y => .b (if c = true then x else y)
  | _, _ => .dead
def mergeE (c : Bool) (a b : E) : E :=
  match a, b with
  | .i k a, .i k' b => if k = k' then .i k (if c = true then a else b) else .dead
  | .s a, .s b => .s (if c = true then a else b)
  | .l m t xs, .l m' t' ys => if m = m' then (if h : t' = t then .l m t (if c = true then xs else h ▸ ys) else .dead) else .dead
  | .n m t o, .n m' t' o' => if m = m' then (if h : t' = t then .n m t (if c = true then o else h ▸ o') else .dead) else .dead
  | .n m t o, .l m' t' ys => if m = m' then (if h : t' = t then .n m t (if c = true then o else some (h ▸ ys)) else .dead) else .dead
  | .l m t xs, .n m' t' o' => if m = m' then (if h : t' = t then .n m t (if c = true then some xs else h ▸ o') else .dead) else .dead
  | .n m t o, .nil => .n m t (if c = true then o else none)
  | .nil, .n m t o => .n m t (if c = true then none else o)
  | .l m t xs, .nil => .n m t (if c = true then some xs else none)
  | .nil, .l m t xs => .n m t (if c = true then none else some xs)
  | .nil, .nil => .nil
  | .nul k, .nul k' => if k = k' then .nul k else .dead
  | .ptr k o, .ptr k' o' => if k = k' ∧ o = o' then .ptr k o else .dead
  | .clo f l, .clo f' l' => if f = f' ∧ l = l' then .clo f l else .dead
  | a, b => mergeBool c a b
theorem mergeBool_true (a b : E) : WkC (cE a) (cE (mergeBool true a b)) := by
  unfold mergeBool
  split <;> first | exact .inl rfl | exact .inr rfl
theorem mergeBool_false (a b : E) : WkC (cE b) (cE (mergeBool false a b)) := by
  unfold mergeBool
  split <;> first | exact .inl rfl | exact .inr rfl
theorem mergeE_true (a b : E) : WkC (cE a) (cE (mergeE true a b)) := by
  unfold mergeE
  split
  · split <;> first | exact .inl rfl | exact .inr rfl
  · exact .inl rfl
  · split
    · split <;> first | exact .inl rfl | exact .inr rfl
    · exact .inr rfl
  · split
    · split <;> first | exact .inl rfl | exact .inr rfl
    · exact .inr rfl
  · split
    · split <;> first | exact .inl rfl | exact .inr rfl
    · exact .inr rfl
  · split
    · split <;> first | exact .inl rfl | exact .inr rfl
    · exact .inr rfl
  · exact .inl rfl
  · exact .inl rfl
  · exact .inl rfl
  · exact .inl rfl
  · exact .inl rfl
  · split <;> first | exact .inl rfl | exact .inr rfl
  · split <;> first | exact .inl rfl | exact .inr rfl
  · split <;> first | exact .inl rfl | exact .inr rfl
  · exact mergeBool_true _ _
theorem mergeE_false (a b : E) : WkC (cE b) (cE (mergeE false a b)) := by
  unfold mergeE
  split
  · split
    · rename_i h; subst h; exact .inl rfl
    · exact .inr rfl
  · exact .inl rfl
  · split
    · rename_i h; subst h
      split
      · rename_i h; subst h; exact .inl rfl
      · exact .inr rfl
    · exact .inr rfl
  · split
    · rename_i h; subst h
      split
      · rename_i h; subst h; exact .inl rfl
      · exact .inr rfl
    · exact .inr rfl
  · split
    · rename_i h; subst h
      split
      · rename_i h; subst h; exact .inl rfl
      · exact .inr rfl
    · exact .inr rfl
  · split
    · rename_i h; subst h
      split
      · rename_i h; subst h; exact .inl rfl
      · exact .inr rfl
    · exact .inr rfl
  · exact .inl rfl
  · exact .inl rfl
  · exact .inl rfl
  · exact .inl rfl
  · exact .inl rfl
  · split
    · rename_i h; subst h; exact .inl rfl
    · exact .inr rfl
  · split
    · rename_i h; obtain ⟨rfl, rfl⟩ := h; exact .inl rfl
    · exact .inr rfl
  · split
    · rename_i h; obtain ⟨rfl, rfl⟩ := h; exact .inl rfl
    · exact .inr rfl
  · exact mergeBool_false _ _
def wkE (a b : E) : E := match usable a && usable b with | true => a | false => .dead
def zipE (f : E → E → E) : List E → List E → List E
  | a :: as, b :: bs => f a b :: zipE f as bs
  | _, _ => []
def zipS (f : E → E → E) (v u : SVE) : SVE :=
  match v, u with
  | .one a, .one b => .one (f a b)
  | .agg as, .agg bs => match as.length == bs.length with
    | true => .agg (zipE f as bs)
    | false => .undef
  | _, _ => .undef
theorem wkE_left (a b : E) : WkE a (wkE a b) := by
  unfold wkE; split <;> first | exact .inl rfl | exact .inr (.inr rfl)
theorem wkE_leftC (a b : E) : WkC (cE a) (cE (wkE a b)) := by
  unfold wkE; split <;> first | exact .inl rfl | exact .inr rfl
theorem wkE_right {c a b : E} (h : WkE c a) (h' : WkE c b) : WkC (cE b) (cE (wkE a b)) := by
  unfold wkE
  split
  · rename_i hu
    simp only [Bool.and_eq_true] at hu
    rw [usable_eq h h' hu.1 hu.2]
    exact .inl rfl
  · exact .inr rfl
theorem zipE_left {f : E → E → E} {R : E → E → Prop} (hf : ∀ a b, R a (f a b)) : ∀ (as bs : List E), as.length = bs.length → All2 R as (zipE f as bs)
  | [], [], _ => trivial
  | a :: as, b :: bs, h => ⟨hf a b, zipE_left hf as bs (by simpa using h)⟩
  | [], _ :: _, h => by simp at h
  | _ :: _, [], h => by simp at h
theorem zipE_right {f : E → E → E} {R : E → E → Prop} (hf : ∀ a b, R b (f a b)) : ∀ (as bs : List E), as.length = bs.length → All2 R bs (zipE f as bs)
  | [], [], _ => trivial
  | a :: as, b :: bs, h => ⟨hf a b, zipE_right hf as bs (by simpa using h)⟩
  | [], _ :: _, h => by simp at h
  | _ :: _, [], h => by simp at h
theorem All2.mapC {R : C → C → Prop} : ∀ {as bs : List E}, All2 (fun a b => R (cE a) (cE b)) as bs → All2 R (cEs as) (cEs bs)
  | [], [], _ => trivial
  | _ :: _, _ :: _, h => ⟨h.1, All2.mapC h.2⟩
theorem zipS_left {f : E → E → E} (hf : ∀ a b, WkC (cE a) (cE (f a b))) (v u : SVE) : WkSV (cSV v) (cSV (zipS f v u)) := by
  unfold zipS
  split
  · exact hf _ _
  · split
    · rename_i h; exact All2.mapC (zipE_left hf _ _ (by simpa using h))
    · trivial
  · trivial
theorem zipS_leftE {f : E → E → E} (hf : ∀ a b, WkE a (f a b)) (v u : SVE) : WkS v (zipS f v u) := by
  unfold zipS
  split
  · exact hf _ _
  · split
    · rename_i h; exact zipE_left hf _ _ (by simpa using h)
    · trivial
  · trivial
theorem zipS_right {f : E → E → E} (hf : ∀ a b, WkC (cE b) (cE (f a b))) (v u : SVE) : WkSV (cSV u) (cSV (zipS f v u)) := by
  unfold zipS
  split
  · exact hf _ _
  · split
    · rename_i h; exact All2.mapC (zipE_right hf _ _ (by simpa using h))
    · trivial
  · trivial
theorem zipE_wk {cs : List E} : ∀ {as bs : List E}, All2 WkE cs as → All2 WkE cs bs → All2 (fun b x => WkC (cE b) (cE x)) bs (zipE wkE as bs) := by
  induction cs with
  | nil =>
    intro as bs h1 h2
    cases as <;> cases bs <;> first | trivial | exact h1.elim | exact h2.elim
  | cons c cs ih =>
    intro as bs h1 h2
    cases as with
    | nil => exact h1.elim
    | cons a as =>
      cases bs with
      | nil => exact h2.elim
      | cons b bs => exact ⟨wkE_right h1.1 h2.1, ih h1.2 h2.2⟩
theorem zipS_wk {v0 v u : SVE} (h : WkS v0 v) (h' : WkS v0 u) : WkSV (cSV u) (cSV (zipS wkE v u)) := by
  unfold zipS
  split
  · cases v0 with
    | one c => exact wkE_right h h'
    | _ => exact h.elim
  · split
    · cases v0 with
      | agg cs => exact All2.mapC (zipE_wk h h')
      | _ => exact h.elim
    · trivial
  · trivial

/-! ## States -/
def mergeSlots (c : Bool) (d : Dirty) (q : PSE) : List (Nat × SVE) → List (Nat × SVE)
  | [] => []
  | (t, v) :: r => (t, match tch (.tmp t) d with
    | true => zipS (mergeE c) v (lkT t q.slots)
    | false => zipS wkE v (lkT t q.slots)) :: mergeSlots c d q r
def mergeCells (c : Bool) (d : Dirty) (k : Key) : Nat → List E → List E → List E
  | j, a :: as, b :: bs => (match whole (.box k) d || part (.box k) j d with
    | true => mergeE c a b
    | false => wkE a b) :: mergeCells c d k (j + 1) as bs
  | _, _, _ => []
def mergeBoxes (c : Bool) (d : Dirty) (q : PSE) : List (Key × List E) → List (Key × List E)
  | [] => []
  | (k, as) :: r => (k, match lkB k q.boxes with
    | some bs => (match as.length == bs.length with
      | true => mergeCells c d k 0 as bs
      | false => as.map fun _ => .dead)
    | none => as.map fun _ => .dead) :: mergeBoxes c d q r
def okBk (A : List SVE) (inb bk : List Key) : Bool := argsOkE bk A && inb.all fun k => bk.any (keqb k)
def hasB (k : Key) (p : PSE) : Bool := match lkB k p.boxes with | some _ => true | none => false
def sameLen (bk : List Key) (p q : PSE) : Bool := bk.all fun k => match lkB k p.boxes, lkB k q.boxes with
  | some as, some bs => as.length == bs.length
  | _, _ => false
def merge (A : List SVE) (inb : List Key) (c : Bool) (p q : PSE) : Option PSE :=
  let bk := (p.boxes.map (·.1)).filter fun k => hasB k q
  match decide (p.frz = q.frz) && okBk A inb bk && sameLen bk p q with
  | true =>
    let d := p.dirty ++ q.dirty
    let p1 := finE (stOf A p) (p.slots.map (·.1)) bk
    let q1 := finE (stOf A q) (q.slots.map (·.1)) bk
    some { slots := mergeSlots c d q1 p1.slots, boxes := mergeBoxes c d q1 p1.boxes, frz := p.frz, dirty := d }
  | false => none

theorem lkT_merge (c : Bool) (d : Dirty) (q : PSE) (t : Nat) : ∀ (l : List (Nat × SVE)), lkT t (mergeSlots c d q l) = match tch (.tmp t) d with
    | true => zipS (mergeE c) (lkT t l) (lkT t q.slots)
    | false => zipS wkE (lkT t l) (lkT t q.slots)
  | [] => by simp only [mergeSlots, lkT]; split <;> (unfold zipS; rfl)
  | (u, v) :: r => by
    simp only [mergeSlots, lkT]
    cases h : t == u with
    | true => have : t = u := by simpa using h
              subst this; rfl
    | false => exact lkT_merge c d q t r
theorem lkB_merge (c : Bool) (d : Dirty) (q : PSE) (k : Key) : ∀ (l : List (Key × List E)), lkB k (mergeBoxes c d q l) = match lkB k l with
    | some as => some (match lkB k q.boxes with
      | some bs => (match as.length == bs.length with
        | true => mergeCells c d k 0 as bs
        | false => as.map fun _ => .dead)
      | none => as.map fun _ => .dead)
    | none => none
  | [] => rfl
  | (u, v) :: r => by
    simp only [mergeBoxes, lkB]
    cases h : keqb k u with
    | true => have := (keqb_iff k u).1 h
              subst this; rfl
    | false => exact lkB_merge c d q k r
theorem mergeCells_length (c : Bool) (d : Dirty) (k : Key) : ∀ (as bs : List E) (j : Nat), as.length = bs.length → (mergeCells c d k j as bs).length = as.length
  | [], [], _, _ => rfl
  | a :: as, b :: bs, j, h => by simp [mergeCells, mergeCells_length c d k as bs (j + 1) (by simpa using h)]
  | [], _ :: _, _, h => by simp at h
  | _ :: _, [], _, h => by simp at h
theorem mergeCells_left {c : Bool} (hc : c = true) (d : Dirty) (k : Key) : ∀ (as bs : List E) (j : Nat), as.length = bs.length → All2 (fun a x => WkC (cE a) (cE x)) as (mergeCells c d k j as bs)
  | [], [], _, _ => trivial
  | a :: as, b :: bs, j, h => by
    refine ⟨?_, mergeCells_left hc d k as bs (j + 1) (by simpa using h)⟩
    split
    · subst hc; exact mergeE_true a b
    · exact wkE_leftC a b
  | [], _ :: _, _, h => by simp at h
  | _ :: _, [], _, h => by simp at h
theorem mergeCells_right {c : Bool} (hc : c = false) (d : Dirty) (k : Key) : ∀ (as bs : List E) (j : Nat), as.length = bs.length → (∀ i, whole (.box k) d = false → part (.box k) (j + i) d = false → ∀ a b, as[i]? = some a → bs[i]? = some b → ∃ x, WkE x a ∧ WkE x b) → All2 (fun b x => WkC (cE b) (cE x)) bs (mergeCells c d k j as bs)
  | [], [], _, _, _ => trivial
  | a :: as, b :: bs, j, h, hk => by
    refine ⟨?_, mergeCells_right hc d k as bs (j + 1) (by simpa using h) fun i h1 h2 x y hx hy => hk (i + 1) h1 (by rw [show j + (i + 1) = j + 1 + i by omega]; exact h2) x y (by simpa using hx) (by simpa using hy)⟩
    split
    · subst hc; exact mergeE_false a b
    · rename_i hw
      rw [Bool.or_eq_false_iff] at hw
      obtain ⟨x, h1, h2⟩ := hk 0 hw.1 (by simpa using hw.2) a b rfl rfl
      exact wkE_right h1 h2
  | [], _ :: _, _, h, _ => by simp at h
  | _ :: _, [], _, h, _ => by simp at h
theorem mergeCells_get (c : Bool) (d : Dirty) (k : Key) : ∀ (as bs : List E) (j i : Nat) (x : E), as.length = bs.length → whole (.box k) d = false → part (.box k) (j + i) d = false → (mergeCells c d k j as bs)[i]? = some x → ∃ a, as[i]? = some a ∧ WkE a x
  | [], [], _, i, x, _, _, _, h => by simp [mergeCells] at h
  | a :: as, b :: bs, j, 0, x, hl, hw, hp, h => by
    simp only [mergeCells, List.getElem?_cons_zero, Option.some.injEq] at h
    rw [show j + 0 = j by omega] at hp
    rw [hw, hp] at h
    subst h
    exact ⟨a, rfl, wkE_left a b⟩
  | a :: as, b :: bs, j, i + 1, x, hl, hw, hp, h => by
    simp only [mergeCells, List.getElem?_cons_succ] at h ⊢
    exact mergeCells_get c d k as bs (j + 1) i x (by simpa using hl) hw (by rw [show j + 1 + i = j + (i + 1) by omega]; exact hp) h
  | [], _ :: _, _, _, _, h, _, _, _ => by simp at h
  | _ :: _, [], _, _, _, h, _, _, _ => by simp at h
theorem lkB_some_of {k : Key} {l : List (Key × List E)} (h : k ∈ l.map (·.1)) : ∃ cs, lkB k l = some cs := by
  induction l with
  | nil => simp at h
  | cons x r ih =>
    simp only [List.map_cons, List.mem_cons] at h
    simp only [lkB]
    cases hk : keqb k x.1 with
    | true => exact ⟨_, rfl⟩
    | false => exact ih (h.resolve_left fun e => by rw [(keqb_iff k x.1).2 e] at hk; cases hk)
theorem cells_none {cs cs' : List E} (h : All2 (fun a x => WkC (cE a) (cE x)) cs cs') : All2 WkC (cEs cs) (cEs cs') := All2.mapC h

section
variable {K : Ctx} {A : List SVE} {inb : List Key} {a : Act} {w : World} {p0 : ESt} {c : Bool} {p q m : PSE}
structure FOK (K : Ctx) (A : List SVE) (inb : List Key) : Prop where
  size : K.argv.size = A.length
  keys : ∀ k b, K.β0 k = some b → k ∈ inb
theorem FOK.bk (hF : FOK K A inb) {bk : List Key} (h : okBk A inb bk = true) : argsOkE bk A = true ∧ ∀ k b, K.β0 k = some b → k ∈ bk := by
  simp only [okBk, Bool.and_eq_true] at h
  refine ⟨h.1, fun k b hk => ?_⟩
  have := List.all_eq_true.1 h.2 k (hF.keys k b hk)
  rw [any_keqb] at this
  simpa using this
theorem PRel.finE (hF : FOK K A inb) {bk : List Key} (hbk : okBk A inb bk = true) (keys : List Nat) (h : PRel K (cPS A p) a w) : PRel K (cPS A (finE (stOf A p) keys bk)) a w := by
  obtain ⟨h1, h2⟩ := hF.bk hbk
  refine finE_rel rfl hF.size h1 h2 ?_
  rw [cSt_stOf]
  exact h.1
theorem Rel.toPRel {p p' : PSE} (hA : K.argv.size = A.length) (h : PRel K (cPS A p) a w) (hfrz : p'.frz = p.frz) (ht : ∀ t, WkSV (cSV (lkT t p.slots)) (cSV (lkT t p'.slots)))
    (hb : ∀ k, match lkB k p.boxes, lkB k p'.boxes with | some cs, some cs' => All2 WkC (cEs cs) (cEs cs') | none, none => True | _, _ => False) : PRel K (cPS A p') a w := by
  obtain ⟨⟨β, ω, Z, h⟩, _⟩ := h
  refine ⟨⟨β, ω, Z, Rel.weak h (fun r => ⟨(ps_hv _ r).1.trans (ps_hv _ r).1.symm, (ps_hv _ r).2.trans (ps_hv _ r).2.symm⟩) (fun t => by rw [cPS_tmp, cPS_tmp]; exact ht t) (fun k => ?_) fun i => by rw [cPS_arg, cPS_arg, hfrz]⟩, (cPS_args_length A _).trans hA.symm⟩
  rw [cPS_box, cPS_box]
  have := hb k
  cases h1 : lkB k p.boxes with
  | none =>
    cases h2 : lkB k p'.boxes with
    | none => exact ⟨trivial, fun _ => rfl⟩
    | some cs' => rw [h1, h2] at this; exact this.elim
  | some cs =>
    cases h2 : lkB k p'.boxes with
    | none => rw [h1, h2] at this; exact this.elim
    | some cs' => rw [h1, h2] at this; exact ⟨this, fun h => by cases h⟩

theorem merge_rel (hF : FOK K A inb) (hp : Keep p.dirty p0 (stOf A p)) (hq : Keep q.dirty p0 (stOf A q)) (hm : merge A inb c p q = some m) :
    (c = true → PRel K (cPS A p) a w → PRel K (cPS A m) a w) ∧ (c = false → PRel K (cPS A q) a w → PRel K (cPS A m) a w) ∧ Keep m.dirty p0 (stOf A m) ∧ m.dirty = p.dirty ++ q.dirty := by
  unfold merge at hm
  generalize hbk : ((p.boxes.map (·.1)).filter fun k => hasB k q) = bk at hm
  simp only at hm
  split at hm
  · rename_i hc
    simp only [Bool.and_eq_true, decide_eq_true_eq] at hc
    obtain ⟨⟨hfrz, hok⟩, hlen⟩ := hc
    cases hm
    have hd : Keep (p.dirty ++ q.dirty) p0 (stOf A (finE (stOf A p) (p.slots.map (·.1)) bk)) := by
      refine Keep.trans ?_ (finE_keep A _ (isBox_stOf A p) _ _ _)
      refine ⟨fun t ht => hp.1 t ?_, fun k hk => ?_⟩
      · rw [tch_append, Bool.or_eq_false_iff] at ht; exact ht.1
      · rw [whole_append, Bool.or_eq_false_iff] at hk
        rcases hp.2 k hk.1 with h | ⟨cs, cs', g1, g2, g3, g4⟩
        · exact .inl h
        · refine .inr ⟨cs, cs', g1, g2, g3, fun j hj => g4 j ?_⟩
          rw [part_append, Bool.or_eq_false_iff] at hj
          exact hj.1
    have hd' : Keep (p.dirty ++ q.dirty) p0 (stOf A (finE (stOf A q) (q.slots.map (·.1)) bk)) := Keep.trans hq.more (finE_keep A _ (isBox_stOf A q) _ _ _)
    generalize hp1 : finE (stOf A p) (p.slots.map (·.1)) bk = p1 at *
    generalize hq1 : finE (stOf A q) (q.slots.map (·.1)) bk = q1 at *
    -- the boxes of both
    have hbox : ∀ k, (∃ as bs, lkB k p1.boxes = some as ∧ lkB k q1.boxes = some bs ∧ as.length = bs.length) ∨ (lkB k p1.boxes = none ∧ lkB k q1.boxes = none) := by
      intro k
      rw [← hp1, ← hq1]
      simp only [finE]
      rw [lkB_finBoxes, lkB_finBoxes, stOf_box, stOf_box]
      by_cases hk : k ∈ bk
      · rw [if_pos hk, if_pos hk]
        have := List.all_eq_true.1 hlen k hk
        cases h1 : lkB k p.boxes with
        | none => rw [h1] at this; cases this
        | some as =>
          cases h2 : lkB k q.boxes with
          | none => rw [h1, h2] at this; cases this
          | some bs =>
            rw [h1, h2] at this
            exact .inl ⟨_, _, rfl, rfl, by simpa using this⟩
      · rw [if_neg hk, if_neg hk]
        exact .inr ⟨rfl, rfl⟩
    refine ⟨fun hct hr => ?_, fun hcf hr => ?_, ?_, rfl⟩
    · have hr1 := PRel.finE hF hok (p.slots.map (·.1)) hr
      rw [hp1] at hr1
      refine Rel.toPRel hF.size hr1 (by rw [← hp1]; rfl) (fun t => ?_) fun k => ?_
      · simp only
        rw [lkT_merge]
        split
        · subst hct; exact zipS_left mergeE_true _ _
        · exact zipS_left wkE_leftC _ _
      · simp only
        rw [lkB_merge]
        rcases hbox k with ⟨as, bs, h1, h2, h3⟩ | ⟨h1, h2⟩
        · rw [h1, h2]
          simp only
          rw [show (as.length == bs.length) = true by simpa using h3]
          exact cells_none (mergeCells_left hct _ k as bs 0 h3)
        · rw [h1]; trivial
    · have hr1 := PRel.finE hF hok (q.slots.map (·.1)) hr
      rw [hq1] at hr1
      refine Rel.toPRel hF.size hr1 (by rw [← hq1]; exact hfrz) (fun t => ?_) fun k => ?_
      · simp only
        rw [lkT_merge]
        split
        · subst hcf; exact zipS_right mergeE_false _ _
        · rename_i ht
          have h1 := hd.1 t ht
          have h2 := hd'.1 t ht
          rw [stOf_tmp] at h1 h2
          exact zipS_wk h1 h2
      · simp only
        rw [lkB_merge]
        rcases hbox k with ⟨as, bs, h1, h2, h3⟩ | ⟨h1, h2⟩
        · rw [h1, h2]
          simp only
          rw [show (as.length == bs.length) = true by simpa using h3]
          refine cells_none (mergeCells_right hcf _ k as bs 0 h3 fun i hw hpt x y hx hy => ?_)
          rw [Nat.zero_add] at hpt
          have e1 := hd.2 k hw
          have e2 := hd'.2 k hw
          rw [stOf_box, h1] at e1
          rw [stOf_box, h2] at e2
          rcases e1 with e1 | ⟨cs, cs', g1, g2, g3, g4⟩
          · cases e1
          · cases g2
            rcases e2 with e2 | ⟨ds, ds', f1, f2, f3, f4⟩
            · cases e2
            · cases f2
              rw [g1] at f1
              cases f1
              obtain ⟨z, z1, z2⟩ := g4 i hpt x hx
              obtain ⟨z', z3, z4⟩ := f4 i hpt y hy
              rw [z1] at z3
              cases z3
              exact ⟨z, z2, z4⟩
        · rw [h1, h2]; trivial
    · refine ⟨fun t ht => ?_, fun k hk => ?_⟩
      · rw [stOf_tmp]
        simp only
        rw [lkT_merge, ht]
        have := hd.1 t ht
        rw [stOf_tmp] at this
        exact WkS.trans this (zipS_leftE wkE_left _ _)
      · rw [stOf_box]
        simp only
        rw [lkB_merge]
        have e1 := hd.2 k hk
        rw [stOf_box] at e1
        rcases hbox k with ⟨as, bs, h1, h2, h3⟩ | ⟨h1, h2⟩
        · rw [h1, h2]
          rw [h1] at e1
          simp only
          rw [show (as.length == bs.length) = true by simpa using h3]
          rcases e1 with e1 | ⟨cs, cs', g1, g2, g3, g4⟩
          · cases e1
          · cases g2
            refine .inr ⟨cs, _, g1, rfl, g3.trans (mergeCells_length c _ k as bs 0 h3).symm, fun j hj x hx => ?_⟩
            obtain ⟨y, y1, y2⟩ := mergeCells_get c _ k as bs 0 j x h3 hk (by rw [Nat.zero_add]; exact hj) hx
            obtain ⟨z, z1, z2⟩ := g4 j hj y y1
            exact ⟨z, z1, WkE.trans z2 y2⟩
        · rw [h1]; exact .inl rfl
  · cases hm
end
end Go.Ve
namespace Go.Ve
open Go.Vs
def view : Tr (Ex × PSE) → Option (Option Bool × PSE)
 | .leaf x => match x with
  | (.normal, p) => some (none, p)
  | _ => none
 | .br g t e => match t, e with
  | .leaf (.normal, p), .fail => some (some g, p)
  | _, _ => none
 | _ => none
def isFail {α : Type} : Tr α → Bool
 | .fail => true
 | _ => false
def mkG {α : Type} (g : Option Bool) (t : Tr α) : Tr α :=
 match g with
 | none => t
 | some g => .br g t .fail
def joinBr (A : List SVE) (inb : List Key) (c : Bool) (a b : Tr (Ex × PSE)) : Tr (Ex × PSE) :=
 match view a, view b with
 | some (g, p), some (h, q) => match merge A inb c p q with
  | some m => mkG (match g, h with
   | none, none => none
   | some g, none => some (!c || g)
   | none, some h => some (c || h)
   | some g, some h => some (if c = true then g else h)) (.leaf (.normal, m))
  | none => .br c a b
 | some (g, p), none => match isFail b with
  | true => mkG (some (match g with | none => c | some g => c && g)) (.leaf (.normal, p))
  | false => .br c a b
 | none, some (h, q) => match isFail a with
  | true => mkG (some (match h with | none => !c | some h => !c && h)) (.leaf (.normal, q))
  | false => .br c a b
 | none, none => .br c a b
def joinT (A : List SVE) (inb : List Key) : Tr (Ex × PSE) → Tr (Ex × PSE)
 | .leaf x => .leaf x
 | .fail => .fail
 | .br c a b => joinBr A inb c (joinT A inb a) (joinT A inb b)
 | .call d o k => .call d o fun x => joinT A inb (k x)
 | .sum o k k' => .sum o (fun x => joinT A inb (k x)) fun x => joinT A inb (k' x)
theorem view_eq {t : Tr (Ex × PSE)} {g : Option Bool} {p : PSE} (h : view t = some (g, p)) : t = mkG g (.leaf (.normal, p)) := by
 unfold view at h
 split at h
 ·split at h <;> cases h; rfl
 ·split at h <;> cases h; rfl
 ·cases h
theorem isFail_eq {α : Type} {t : Tr α} (h : isFail t = true) : t = .fail := by cases t <;> first | rfl | cases h
section
variable {K : Ctx} {A : List SVE} {inb : List Key}
def Reach (K : Ctx) (A : List SVE) (Q : Ex × PSE → Prop) (x : Ex × PSE) : Prop :=
 ∀ a w, PRel K (cPS A x.2) a w → ∃ y, exOf x.1 = exOf y.1 ∧ Q y ∧ PRel K (cPS A y.2) a w
theorem Reach.of {Q : Ex × PSE → Prop} {x : Ex × PSE} (h : Q x) : Reach K A Q x := fun _ _ hr => ⟨x, rfl, h, hr⟩
theorem Reach.idem {Q : Ex × PSE → Prop} {x : Ex × PSE} (h : Reach K A (Reach K A Q) x) : Reach K A Q x := by
 intro a w hr
 obtain ⟨y, h1, h2, h3⟩ := h a w hr
 obtain ⟨z, g1, g2, g3⟩ := h2 a w h3
 exact ⟨z, h1.trans g1, g2, g3⟩
theorem all_mono {α : Type} {t : Tr α} {Q Q' : α → Prop} (h : ∀ a, Q a → Q' a) (ht : t.all Q) : t.all Q' := by
 obtain ⟨a, h1, h2⟩ := (Tr.all_iff t Q).1 ht
 exact (Tr.all_iff t Q').2 ⟨a, h1, h a h2⟩
def KeepL (p0 : ESt) (A : List SVE) (x : Ex × PSE) : Prop := (∃ l, x.2.dirty = l ++ p0.dirty) ∧ Keep x.2.dirty p0 (stOf A x.2)
theorem mkG_all {α : Type} {g : Option Bool} {x : α} {Q : α → Prop} : (mkG g (.leaf x)).all Q ↔ ((∀ b, g = some b → b = true) ∧ Q x) := by
 cases g with
 | none => simp [mkG, Tr.all]
 | some b => cases b <;> simp [mkG, Tr.all]
theorem mkG_box {α : Type} {g : Option Bool} {x : α} {Q : α → Prop} : (mkG g (.leaf x)).box Q ↔ ((∀ b, g = some b → b = true) → Q x) := by
 cases g with
 | none => simp [mkG, Tr.box]
 | some b => cases b <;> simp [mkG, Tr.box]
theorem mkG_each {α : Type} {g : Option Bool} {x : α} {Q : α → Prop} : (mkG g (.leaf x)).each Q ↔ Q x := by
 cases g <;> simp [mkG, Tr.each]
theorem joinBr_spec (hF : FOK K A inb) {p0 : ESt} (c : Bool) (a b : Tr (Ex × PSE)) (ka : a.each (KeepL p0 A)) (kb : b.each (KeepL p0 A)) :
  (joinBr A inb c a b).each (KeepL p0 A) ∧ ∀ Q, (joinBr A inb c a b).all Q → (c = true → a.all (Reach K A Q)) ∧ (c = false → b.all (Reach K A Q)) := by
 have plain : (Tr.br c a b).each (KeepL p0 A) ∧ ∀ Q, (Tr.br c a b).all Q → (c = true → a.all (Reach K A Q)) ∧ (c = false → b.all (Reach K A Q)) :=
  ⟨⟨ka, kb⟩, fun Q h => ⟨fun hc => all_mono (fun _ => Reach.of) (h.1 hc), fun hc => all_mono (fun _ => Reach.of) (h.2 hc)⟩⟩
 unfold joinBr
 split
 ·rename_i g p h q hva hvb
  have ea := view_eq hva
  have eb := view_eq hvb
  rw [ea, mkG_each] at ka
  rw [eb, mkG_each] at kb
  split
  ·rename_i m hm
   have hrel := fun a w => merge_rel (K := K) (A := A) (inb := inb) (a := a) (w := w) (p0 := p0) (c := c) hF ka.2 kb.2 hm
   obtain ⟨_, _, hk, hdm⟩ := hrel { tmps := #[], defers := [] } default
   refine ⟨mkG_each.2 ⟨?_, hk⟩, fun Q hall => ?_⟩
   ·obtain ⟨l, hl⟩ := kb.1
    exact ⟨p.dirty ++ l, by show m.dirty = _; rw [hdm, hl, List.append_assoc]⟩
   ·rw [mkG_all] at hall
    obtain ⟨hg, hQ⟩ := hall
    refine ⟨fun hc => ?_, fun hc => ?_⟩
    ·rw [ea, mkG_all]
     refine ⟨fun g0 e => ?_, fun a w hr => ⟨(.normal, m), rfl, hQ, (hrel a w).1 hc hr⟩⟩
     subst e
     subst hc
     cases h with
     | none => have := hg _ rfl; simpa using this
     | some h => have := hg _ rfl; simpa using this
    ·rw [eb, mkG_all]
     refine ⟨fun g0 e => ?_, fun a w hr => ⟨(.normal, m), rfl, hQ, (hrel a w).2.1 hc hr⟩⟩
     subst e
     subst hc
     cases g with
     | none => have := hg _ rfl; simpa using this
     | some h => have := hg _ rfl; simpa using this
  ·exact plain
 ·rename_i g p hva hvb
  split
  ·rename_i hf
   have ea := view_eq hva
   have eb := isFail_eq hf
   rw [ea, mkG_each] at ka
   refine ⟨mkG_each.2 ka, fun Q hall => ?_⟩
   rw [mkG_all] at hall
   obtain ⟨hg, hQ⟩ := hall
   have hg := hg _ rfl
   refine ⟨fun hc => ?_, fun hc => ?_⟩
   ·rw [ea, mkG_all]
    refine ⟨fun g0 e => ?_, Reach.of hQ⟩
    subst e; subst hc; simpa using hg
   ·subst hc
    cases g <;> simp at hg
  ·exact plain
 ·rename_i h q hva hvb
  split
  ·rename_i hf
   have eb := view_eq hvb
   have ea := isFail_eq hf
   rw [eb, mkG_each] at kb
   refine ⟨mkG_each.2 kb, fun Q hall => ?_⟩
   rw [mkG_all] at hall
   obtain ⟨hg, hQ⟩ := hall
   have hg := hg _ rfl
   refine ⟨fun hc => ?_, fun hc => ?_⟩
   ·subst hc
    cases h <;> simp at hg
   ·rw [eb, mkG_all]
    refine ⟨fun g0 e => ?_, Reach.of hQ⟩
    subst e; subst hc; simpa using hg
  ·exact plain
 ·exact plain
theorem joinT_spec (hF : FOK K A inb) {p0 : ESt} : ∀ (t : Tr (Ex × PSE)), t.each (KeepL p0 A) → (joinT A inb t).each (KeepL p0 A) ∧ ∀ Q, (joinT A inb t).all Q → t.all (Reach K A Q) := by
 intro t
 induction t with
 | leaf x => exact fun h => ⟨h, fun Q hq => Reach.of hq⟩
 | fail => exact fun _ => ⟨trivial, fun Q hq => hq⟩
 | br c a b iha ihb =>
  intro h
  obtain ⟨ka, ha⟩ := iha h.1
  obtain ⟨kb, hb⟩ := ihb h.2
  obtain ⟨h1, h2⟩ := joinBr_spec hF c _ _ ka kb
  refine ⟨h1, fun Q hq => ?_⟩
  obtain ⟨g1, g2⟩ := h2 Q hq
  exact ⟨fun hc => all_mono (fun _ => Reach.idem) (ha _ (g1 hc)), fun hc => all_mono (fun _ => Reach.idem) (hb _ (g2 hc))⟩
 | call d o k ih => exact fun h => ⟨fun x => (ih x (h x)).1, fun Q ⟨x, hx, hq⟩ => ⟨x, hx, (ih x (h x)).2 Q hq⟩⟩
 | sum o k k' ih ih' => exact fun h => ⟨⟨fun x => (ih x (h.1 x)).1, fun x => (ih' x (h.2 x)).1⟩, fun Q hq => ⟨fun x hx => (ih x (h.1 x)).2 Q (hq.1 x hx), fun x hx => (ih' x (h.2 x)).2 Q (hq.2 x hx)⟩⟩
end
inductive Sh where
 | i (k : IntKind) | b | s | l (m : Md) (t : Ty) | n (m : Md) (t : Ty) | p (k : Key) (off : Nat)
@[reducible] def Sh.T : Sh → Type
 | .i _ => Int
 | .b => Bool
 | .s => List UInt8
 | .l _ t => List t.T
 | .n _ t => Option (List t.T)
 | .p _ _ => Unit
def Sh.inst : (h : Sh) → h.T → E
 | .i k, x => .i k x
 | .b, x => .b x
 | .s, x => .s x
 | .l m t, xs => .l m t xs
 | .n m t, o => .n m t o
 | .p k off, _ => .ptr k off
def Sh.dflt : (h : Sh) → h.T
 | .i _ => (0 : Int)
 | .b => false
 | .s => ([] : List UInt8)
 | .l _ t => ([] : List t.T)
 | .n _ t => (none : Option (List t.T))
 | .p _ _ => ()
def Sh.mat : (h : Sh) → E → Option h.T
 | .i k => fun c => match c with
  | .i k' x => if k' = k then some x else none
  | _ => none
 | .b => fun c => boolOf c
 | .s => fun c => match c with
  | .s x => some x
  | _ => none
 | .l m t => fun c => match c with
  | .l m' t' xs => if m' = m then (if h : t' = t then some (h ▸ xs) else none) else none
  | _ => none
 | .n m t => fun c => match c with
  | .l m' t' xs => if m' = m then (if h : t' = t then some (some (h ▸ xs)) else none) else none
  | .n m' t' o => if m' = m then (if h : t' = t then some (h ▸ o) else none) else none
  | .nil => some none
  | _ => none
 | .p k off => fun c => match c with
  | .ptr k' off' => match keqb k k' && off == off' with
   | true => some ()
   | false => none
  | _ => none
theorem Sh.mat_eq : ∀ {h : Sh} {c : E} {x : h.T}, h.mat c = some x → cE (h.inst x) = cE c
 | .i k, c, x, e => by
  simp only [Sh.mat] at e
  split at e
  ·split at e
   ·rename_i h; subst h; cases e; rfl
   ·cases e
  ·cases e
 | .b, c, x, e => (boolOf_eq e).symm
 | .p k off, c, x, e => by
  simp only [Sh.mat] at e
  split at e
  ·split at e
   ·rename_i h
    simp only [Bool.and_eq_true, beq_iff_eq, keqb_iff] at h
    obtain ⟨rfl, rfl⟩ := h
    rfl
   ·cases e
  ·cases e
 | .s, c, x, e => by
  simp only [Sh.mat] at e
  split at e <;> cases e
  rfl
 | .l m t, c, x, e => by
  simp only [Sh.mat] at e
  split at e
  ·split at e
   ·rename_i h; subst h
    split at e
    ·rename_i h; subst h; cases e; rfl
    ·cases e
   ·cases e
  ·cases e
 | .n m t, c, x, e => by
  simp only [Sh.mat] at e
  split at e
  ·split at e
   ·rename_i h; subst h
    split at e
    ·rename_i h; subst h; cases e; rfl
    ·cases e
   ·cases e
  ·split at e
   ·rename_i h; subst h
    split at e
    ·rename_i h; subst h; cases e; rfl
    ·cases e
   ·cases e
  ·cases e; rfl
  ·cases e
inductive Pl where
 | slot (t : Nat) (h : Sh) | slotR (t : Nat) (r : Ty) | cell (k : Key) (j : Nat) (h : Sh)
@[reducible] def Pl.T : Pl → Type
 | .slot _ h => h.T
 | .slotR _ r => r.T
 | .cell _ _ h => h.T
def Pl.dflt : (p : Pl) → p.T
 | .slot _ h => h.dflt
 | .slotR _ r => r.zero
 | .cell _ _ h => h.dflt
@[reducible] def VT : List Pl → Type
 | [] => Unit
 | p :: r => match r with
  | [] => p.T
  | q :: r => p.T × VT (q :: r)
def VT.dflt : (l : List Pl) → VT l
 | [] => ()
 | [p] => p.dflt
 | p :: q :: r => (p.dflt, VT.dflt (q :: r))
def setT (t : Nat) (v : SVE) : List (Nat × SVE) → List (Nat × SVE)
 | [] => [(t, v)]
 | (u, x) :: r => match t == u with
  | true => (t, v) :: r
  | false => (u, x) :: setT t v r
def setB (k : Key) (j : Nat) (c : E) : List (Key × List E) → List (Key × List E)
 | [] => []
 | (q, x) :: r => match keqb k q with
  | true => (q, lset x j c) :: r
  | false => (q, x) :: setB k j c r
def Pl.get : (q : Pl) → PSE → Option q.T
 | .slot t h => fun p => match lkT t p.slots with
  | .one c => h.mat c
  | _ => none
 | .slotR t r => fun p => match lkT t p.slots with
  | .agg cs => rowT r cs
  | _ => none
 | .cell k j h => fun p => match lkB k p.boxes with
  | some cs => match cs[j]? with
   | some c => h.mat c
   | none => none
  | none => none
def Pl.put : (q : Pl) → q.T → PSE → PSE
 | .slot t h, x, p => { p with slots := setT t (.one (h.inst x)) p.slots }
 | .slotR t r, x, p => { p with slots := setT t (.agg (cellsT r x)) p.slots }
 | .cell k j h, x, p => { p with boxes := setB k j (h.inst x) p.boxes }
def matV : (l : List Pl) → PSE → Option (VT l)
 | [], _ => some ()
 | [q], p => q.get p
 | q :: q' :: r, p => match q.get p, matV (q' :: r) p with
  | some x, some y => some (x, y)
  | _, _ => none
def instV : (l : List Pl) → VT l → PSE → PSE
 | [], _, b => b
 | [q], x, b => q.put x b
 | q :: q' :: r, x, b => q.put x.1 (instV (q' :: r) x.2 b)
def Pl.isSlot (t : Nat) : Pl → Bool
 | .slot u _ => t == u
 | .slotR u _ => t == u
 | _ => false
def Pl.isCell (k : Key) (j : Nat) : Pl → Bool
 | .cell q i _ => keqb k q && j == i
 | _ => false
theorem lkT_set (t u : Nat) (v : SVE) : ∀ (l : List (Nat × SVE)), lkT u (setT t v l) = match u == t with | true => v | false => lkT u l
 | [] => by simp only [setT, lkT] <;> cases u == t <;> rfl
 | (q, x) :: r => by
  simp only [setT]
  cases h : t == q with
  | true =>
   have : t = q := by simpa using h
   subst this
   simp only [lkT]
   cases u == t <;> rfl
  | false =>
   simp only [lkT, lkT_set t u v r]
   cases h2 : u == q with
   | true =>
    have e : u = q := by simpa using h2
    subst e
    have : (u == t) = false := by
     cases h3 : u == t with
     | false => rfl
     | true => rw [beq_iff_eq] at h3; subst h3; rw [beq_self_eq_true] at h; cases h
    rw [this]
   | false => rfl
theorem lkB_set (k q : Key) (j : Nat) (c : E) : ∀ (l : List (Key × List E)), lkB q (setB k j c l) = match keqb q k with | true => (lkB q l).map fun x => lset x j c | false => lkB q l
 | [] => by simp only [setB, lkB]; cases keqb q k <;> rfl
 | (u, x) :: r => by
  simp only [setB]
  cases h : keqb k u with
  | true =>
   have := (keqb_iff k u).1 h
   subst this
   simp only [lkB]
   cases keqb q k <;> rfl
  | false =>
   simp only [lkB, lkB_set k q j c r]
   cases h2 : keqb q u with
   | true =>
    have e := (keqb_iff q u).1 h2
    subst e
    have : keqb q k = false := by
     cases h3 : keqb q k with
     | false => rfl
     | true => rw [(keqb_iff q k).1 h3, (keqb_iff k k).2 rfl] at h; cases h
    rw [this]
   | false => rfl
theorem Pl.put_slot (q : Pl) (x : q.T) (b : PSE) (t : Nat) (h : q.isSlot t = false) : lkT t (q.put x b).slots = lkT t b.slots := by
 cases q with
 | slot u sh => simp only [Pl.isSlot] at h; simp only [Pl.put, lkT_set, h]
 | slotR u sh => simp only [Pl.isSlot] at h; simp only [Pl.put, lkT_set, h]
 | cell k j sh => rfl
theorem Pl.put_get {q : Pl} {x : q.T} {p : PSE} (h : q.get p = some x) (b : PSE) (t : Nat) (ht : q.isSlot t = true) : cSV (lkT t (q.put x b).slots) = cSV (lkT t p.slots) := by
 cases q with
 | slot u sh =>
  simp only [Pl.isSlot] at ht
  have e : t = u := by simpa using ht
  subst e
  simp only [Pl.get] at h
  split at h
  ·rename_i c hc
   simp only [Pl.put, lkT_set, ht, hc, cSV]
   rw [Sh.mat_eq h]
  ·cases h
 | slotR u sh =>
  simp only [Pl.isSlot] at ht
  have e : t = u := by simpa using ht
  subst e
  simp only [Pl.get] at h
  split at h
  ·rename_i c hc
   simp only [Pl.put, lkT_set, ht, hc, cSV]
   rw [cells_enc, rowT_eq h]
  ·cases h
 | cell k j sh => cases ht
theorem instV_slot {p : PSE} : ∀ (l : List Pl) (y : VT l) (b : PSE), matV l p = some y → ∀ t, (l.any (Pl.isSlot t) = true ∧ cSV (lkT t (instV l y b).slots) = cSV (lkT t p.slots)) ∨ (l.any (Pl.isSlot t) = false ∧ lkT t (instV l y b).slots = lkT t b.slots)
 | [], _, b, _, t => .inr ⟨rfl, rfl⟩
 | [q], y, b, h, t => by
  simp only [List.any_cons, List.any_nil, Bool.or_false]
  cases hq : q.isSlot t with
  | true => exact .inl ⟨rfl, Pl.put_get h b t hq⟩
  | false => exact .inr ⟨rfl, Pl.put_slot q y b t hq⟩
 | q :: q' :: r, y, b, h, t => by
  simp only [matV] at h
  split at h
  ·rename_i x ys h1 h2
   cases h
   rw [List.any_cons]
   cases hq : q.isSlot t with
   | true => exact .inl ⟨rfl, Pl.put_get h1 _ t hq⟩
   | false =>
    simp only [instV]
    rw [Pl.put_slot q x _ t hq]
    exact instV_slot (q' :: r) ys b h2 t
  ·cases h
theorem instV_slot' : ∀ (l : List Pl) (y : VT l) (b : PSE) (t : Nat), l.any (Pl.isSlot t) = false → lkT t (instV l y b).slots = lkT t b.slots
 | [], _, b, t, _ => rfl
 | [q], y, b, t, h => Pl.put_slot q y b t (by simpa using h)
 | q :: q' :: r, y, b, t, h => by
  rw [List.any_cons, Bool.or_eq_false_iff] at h
  simp only [instV]
  rw [Pl.put_slot q _ _ t h.1]
  exact instV_slot' (q' :: r) y.2 b t h.2
def CellsAs (l : List Pl) (k : Key) (R : Nat → E → Prop) (o o' : Option (List E)) : Prop :=
 match o, o' with
 | none, none => True
 | some bs, some cs => bs.length = cs.length ∧ ∀ j c, cs[j]? = some c → (l.any (Pl.isCell k j) = true ∧ R j c) ∨ (l.any (Pl.isCell k j) = false ∧ bs[j]? = some c)
 | _, _ => False
theorem CellsAs.step {l : List Pl} {k : Key} {R : Nat → E → Prop} {q : Pl} {x : q.T} {b b1 : PSE} (h : CellsAs l k R (lkB k b.boxes) (lkB k b1.boxes)) (hq : ∀ j sh (e : q = .cell k j sh), R j (sh.inst (by subst e; exact x))) : CellsAs (q :: l) k R (lkB k b.boxes) (lkB k (q.put x b1).boxes) := by
 have other : (∀ j, q.isCell k j = false) → lkB k (q.put x b1).boxes = lkB k b1.boxes → CellsAs (q :: l) k R (lkB k b.boxes) (lkB k (q.put x b1).boxes) := by
  intro h1 h2
  rw [h2]
  revert h
  cases lkB k b.boxes with
  | none => cases lkB k b1.boxes <;> exact fun h => h
  | some bs =>
   cases lkB k b1.boxes with
   | none => exact fun h => h
   | some cs =>
    intro h
    refine ⟨h.1, fun j c hc => ?_⟩
    rw [List.any_cons, h1 j]
    exact h.2 j c hc
 cases q with
 | slot u sh => exact other (fun _ => rfl) rfl
 | slotR u sh => exact other (fun _ => rfl) rfl
 | cell k' i sh =>
  cases hk : keqb k k' with
  | false => exact other (fun j => by simp [Pl.isCell, hk]) (by simp only [Pl.put, lkB_set, hk])
  | true =>
   have e := (keqb_iff k k').1 hk
   subst e
   simp only [Pl.put, lkB_set, hk]
   revert h
   cases lkB k b.boxes with
   | none => cases lkB k b1.boxes <;> exact fun h => h
   | some bs =>
    cases lkB k b1.boxes with
    | none => exact fun h => h
    | some cs =>
     intro h
     simp only [Option.map_some]
     refine ⟨by rw [lset_eq]; simpa using h.1, fun j c hc => ?_⟩
     rw [lset_eq] at hc
     rw [List.any_cons]
     by_cases hj : j = i
     ·subst hj
      left
      have hlt : j < cs.length := by
       have := (List.getElem?_eq_some_iff.1 hc).1
       simpa using this
      rw [List.getElem?_set_self hlt] at hc
      cases hc
      exact ⟨by simp [Pl.isCell, hk], hq j sh rfl⟩
     ·rw [List.getElem?_set_ne (Ne.symm hj)] at hc
      have : Pl.isCell k j (.cell k i sh) = false := by simp [Pl.isCell, hj]
      rw [this]
      exact h.2 j c hc
def CellOf (p : PSE) (k : Key) (j : Nat) (c : E) : Prop := ∃ cs c0, lkB k p.boxes = some cs ∧ cs[j]? = some c0 ∧ cE c = cE c0
theorem Pl.get_cell {k : Key} {j : Nat} {sh : Sh} {p : PSE} {x : sh.T} (h : (Pl.cell k j sh).get p = some x) : CellOf p k j (sh.inst x) := by
 simp only [Pl.get] at h
 split at h
 ·rename_i cs hcs
  split at h
  ·rename_i c hc
   exact ⟨cs, c, hcs, hc, Sh.mat_eq h⟩
  ·cases h
 ·cases h
theorem instV_box {p : PSE} (k : Key) : ∀ (l : List Pl) (y : VT l) (b : PSE), matV l p = some y → CellsAs l k (CellOf p k) (lkB k b.boxes) (lkB k (instV l y b).boxes)
 | [], _, b, _ => by
  simp only [instV, CellsAs]
  cases lkB k b.boxes with
  | none => trivial
  | some bs => exact ⟨rfl, fun j c hc => .inr ⟨rfl, hc⟩⟩
 | [q], y, b, h => by
  have h0 : CellsAs [] k (CellOf p k) (lkB k b.boxes) (lkB k b.boxes) := instV_box k [] () b rfl
  exact CellsAs.step h0 fun j sh e => by subst e; exact Pl.get_cell h
 | q :: q' :: r, y, b, h => by
  simp only [matV] at h
  split at h
  ·rename_i x ys h1 h2
   cases h
   exact CellsAs.step (instV_box k (q' :: r) ys b h2) fun j sh e => by subst e; exact Pl.get_cell h1
  ·cases h
theorem instV_box' (k : Key) : ∀ (l : List Pl) (y : VT l) (b : PSE), CellsAs l k (fun _ _ => True) (lkB k b.boxes) (lkB k (instV l y b).boxes)
 | [], _, b => by
  simp only [instV, CellsAs]
  cases lkB k b.boxes with
  | none => trivial
  | some bs => exact ⟨rfl, fun j c hc => .inr ⟨rfl, hc⟩⟩
 | [q], y, b => by
  have h0 : CellsAs [] k (fun _ _ => True) (lkB k b.boxes) (lkB k b.boxes) := instV_box' k [] () b
  exact CellsAs.step h0 fun j sh e => trivial
 | q :: q' :: r, y, b => CellsAs.step (instV_box' k (q' :: r) y.2 b) fun j sh e => trivial
theorem Pl.put_frz (q : Pl) (x : q.T) (b : PSE) : (q.put x b).frz = b.frz ∧ (q.put x b).dirty = b.dirty := by cases q <;> exact ⟨rfl, rfl⟩
theorem instV_frz : ∀ (l : List Pl) (y : VT l) (b : PSE), (instV l y b).frz = b.frz ∧ (instV l y b).dirty = b.dirty
 | [], _, b => ⟨rfl, rfl⟩
 | [q], y, b => Pl.put_frz q y b
 | q :: q' :: r, y, b => by
  simp only [instV]
  obtain ⟨h1, h2⟩ := Pl.put_frz q y.1 (instV (q' :: r) y.2 b)
  obtain ⟨h3, h4⟩ := instV_frz (q' :: r) y.2 b
  exact ⟨h1.trans h3, h2.trans h4⟩
end Go.Ve
/- Code: the typed evaluator, loops included; what it gives holds of the code. -/
namespace Go.Ve
open Go.Vs

/-! ## What a loop keeps -/
structure LRec where
  live : List Nat
  lbox : List Key
  vs : List Pl
structure LoopRec where
  head : LRec
  exits : List (Ex × LRec)
def isDead : E → Bool
  | .dead => true
  | _ => false
def usC (a c : E) : Bool := isDead a || (usable a && usable c)
def usCs : List E → List E → Bool
  | [], [] => true
  | a :: as, c :: cs => usC a c && usCs as cs
  | _, _ => false
def usS (v u : SVE) : Bool :=
  match v, u with
  | .undef, _ => true
  | .one a, .one c => usC a c
  | .agg as, .agg cs => usCs as cs
  | _, _ => false
def usB (l : List Pl) (d : Dirty) (k : Key) : Nat → List E → List E → Bool
  | _, [], [] => true
  | j, a :: as, c :: cs => (l.any (Pl.isCell k j) || (!part (.box k) j d && usC a c)) && usB l d k (j + 1) as cs
  | _, _, _ => false
/-- the base of a place: what of h is kept -/
def base (A : List SVE) (L : LRec) (h : PSE) : PSE := { finE (stOf A h) L.live L.lbox with dirty := [] }
def fitSlots (l : List Pl) (d : Dirty) (p : PSE) (b : List (Nat × SVE)) : Bool := b.all fun x => l.any (Pl.isSlot x.1) || (!tch (.tmp x.1) d && usS x.2 (lkT x.1 p.slots))
def fitBoxes (l : List Pl) (d : Dirty) (p : PSE) (b : List (Key × List E)) : Bool := b.all fun x => match lkB x.1 p.boxes with
  | some cs => !whole (.box x.1) d && usB l d x.1 0 x.2 cs
  | none => false
/-- the unmarked rest of p is the base's; the marked places are read -/
def fit (A : List SVE) (inb : List Key) (L : LRec) (b p : PSE) : Option (VT L.vs) :=
  let bk := b.boxes.map (·.1)
  let p1 := finE (stOf A p) (p.slots.map (·.1)) bk
  match decide (p.frz = b.frz) && okBk A inb bk && fitSlots L.vs p.dirty p1 b.slots && fitBoxes L.vs p.dirty p1 b.boxes with
  | true => matV L.vs p1
  | false => none

theorem usC_wk {z a c : E} (h : usC a c = true) (h1 : WkE z a) (h2 : WkE z c) : WkC (cE c) (cE a) := by
  simp only [usC, Bool.or_eq_true, Bool.and_eq_true] at h
  rcases h with h | ⟨h, h'⟩
  · cases a <;> first | (cases h; done) | exact .inr rfl
  · rw [usable_eq h1 h2 h h']; exact .inl rfl
theorem usCs_wk : ∀ {zs as cs : List E}, usCs as cs = true → All2 WkE zs as → All2 WkE zs cs → All2 WkC (cEs cs) (cEs as)
  | [], [], [], _, _, _ => trivial
  | z :: zs, a :: as, c :: cs, h, h1, h2 => by
    simp only [usCs, Bool.and_eq_true] at h
    exact ⟨usC_wk h.1 h1.1 h2.1, usCs_wk h.2 h1.2 h2.2⟩
  | [], _ :: _, _, _, h1, _ => h1.elim
  | _ :: _, [], _, _, h1, _ => h1.elim
  | [], [], _ :: _, _, _, h2 => h2.elim
  | _ :: _, _ :: _, [], _, _, h2 => h2.elim
theorem usS_wk {z v u : SVE} (h : usS v u = true) (h1 : WkS z v) (h2 : WkS z u) : WkSV (cSV u) (cSV v) := by
  unfold usS at h
  split at h
  · cases u <;> trivial
  · cases z with
    | one z => exact usC_wk h h1 h2
    | _ => exact h1.elim
  · cases z with
    | agg z => exact usCs_wk h h1 h2
    | _ => exact h1.elim
  · cases h
theorem usB_len {l : List Pl} {d : Dirty} {k : Key} : ∀ {as cs : List E} {j : Nat}, usB l d k j as cs = true → as.length = cs.length
  | [], [], _, _ => rfl
  | a :: as, c :: cs, j, h => by
    simp only [usB, Bool.and_eq_true] at h
    simp [usB_len h.2]
  | [], _ :: _, _, h => by cases h
  | _ :: _, [], _, h => by cases h
theorem usB_get {l : List Pl} {d : Dirty} {k : Key} : ∀ {as cs : List E} {j i : Nat} {a c : E}, usB l d k j as cs = true → as[i]? = some a → cs[i]? = some c → l.any (Pl.isCell k (j + i)) = true ∨ (part (.box k) (j + i) d = false ∧ usC a c = true)
  | a :: as, c :: cs, j, 0, x, y, h, hx, hy => by
    simp only [usB, Bool.and_eq_true, Bool.or_eq_true, Bool.not_eq_true'] at h
    simp only [List.getElem?_cons_zero, Option.some.injEq] at hx hy
    subst hx hy
    exact h.1
  | a :: as, c :: cs, j, i + 1, x, y, h, hx, hy => by
    simp only [usB, Bool.and_eq_true] at h
    rw [show j + (i + 1) = j + 1 + i by omega]
    exact usB_get h.2 (by simpa using hx) (by simpa using hy)
  | [], [], _, _, _, _, _, hx, _ => by simp at hx
  | [], _ :: _, _, _, _, _, h, _, _ => by cases h
  | _ :: _, [], _, _, _, _, h, _, _ => by cases h
theorem lkT_mem {t : Nat} : ∀ {l : List (Nat × SVE)}, lkT t l = .undef ∨ ∃ v, (t, v) ∈ l ∧ lkT t l = v
  | [] => .inl rfl
  | (u, x) :: r => by
    simp only [lkT]
    cases h : t == u with
    | true => have e : t = u := by simpa using h
              subst e; exact .inr ⟨x, by simp, rfl⟩
    | false => rcases lkT_mem (t := t) (l := r) with h | ⟨v, h1, h2⟩
               · exact .inl h
               · exact .inr ⟨v, List.mem_cons_of_mem _ h1, h2⟩
theorem lkB_mem {k : Key} : ∀ {l : List (Key × List E)} {cs : List E}, lkB k l = some cs → (k, cs) ∈ l
  | (u, x) :: r, cs, h => by
    simp only [lkB] at h
    split at h
    · rename_i hk; cases h; rw [(keqb_iff k u).1 hk]; simp
    · exact List.mem_cons_of_mem _ (lkB_mem h)
theorem lkB_none {k : Key} : ∀ {l : List (Key × List E)}, lkB k l = none → k ∉ l.map (·.1)
  | [], _ => by simp
  | (u, x) :: r, h => by
    simp only [lkB] at h
    split at h
    · cases h
    · rename_i hk
      simp only [List.map_cons, List.mem_cons, not_or]
      refine ⟨fun e => ?_, lkB_none h⟩
      rw [(keqb_iff k u).2 e] at hk
      cases hk

section
variable {K : Ctx} {A : List SVE} {inb : List Key} {a : Act} {w : World}
/-- what is fitted holds -/
theorem fit_rel (hF : FOK K A inb) {L : LRec} {h b p : PSE} {y : VT L.vs} (hk : Keep p.dirty (stOf A h) (stOf A p))
    (hs : ∀ t, L.vs.any (Pl.isSlot t) = false → WkS (lkT t h.slots) (lkT t b.slots))
    (hb : ∀ k bs, lkB k b.boxes = some bs → ∃ cs, lkB k h.boxes = some cs ∧ cs.length = bs.length ∧ ∀ j, L.vs.any (Pl.isCell k j) = false → ∀ c, bs[j]? = some c → ∃ c0, cs[j]? = some c0 ∧ WkE c0 c)
    (hfit : fit A inb L b p = some y) (hr : PRel K (cPS A p) a w) : PRel K (cPS A (instV L.vs y b)) a w := by
  unfold fit at hfit
  generalize hbk : b.boxes.map (·.1) = bk at hfit
  simp only at hfit
  split at hfit
  · rename_i hc
    simp only [Bool.and_eq_true, decide_eq_true_eq] at hc
    obtain ⟨⟨⟨hfrz, hok⟩, h3⟩, h4⟩ := hc
    have hr1 := PRel.finE hF hok (p.slots.map (·.1)) hr
    have hk1 : Keep p.dirty (stOf A h) (stOf A (finE (stOf A p) (p.slots.map (·.1)) bk)) := Keep.trans hk (finE_keep A _ (isBox_stOf A p) _ _ _)
    have hfr : (finE (stOf A p) (p.slots.map (·.1)) bk).frz = p.frz := rfl
    have hnone : ∀ k, lkB k b.boxes = none → lkB k (finE (stOf A p) (p.slots.map (·.1)) bk).boxes = none := by
      intro k hn
      simp only [finE]
      rw [lkB_finBoxes, if_neg]
      rw [← hbk]
      exact lkB_none hn
    generalize hp1 : finE (stOf A p) (p.slots.map (·.1)) bk = p1 at *
    have hmat := hfit
    refine Rel.toPRel hF.size hr1 (by rw [(instV_frz L.vs y b).1, hfr, hfrz]) (fun t => ?_) fun k => ?_
    · rcases instV_slot L.vs y b hmat t with ⟨_, h2⟩ | ⟨h1, h2⟩
      · rw [h2]
        cases hv : lkT t p1.slots with
        | one c => exact .inl rfl
        | agg cs => exact WkC.all_refl _
        | tup vs => exact All2.same (R := fun p q : Bool × List C => p.1 = q.1 ∧ All2 WkC p.2 q.2) (fun p => ⟨rfl, WkC.all_refl _⟩) _
        | undef => trivial
      · rw [h2]
        rcases lkT_mem (t := t) (l := b.slots) with hu | ⟨v, hm, hv⟩
        · rw [hu]; trivial
        · have := List.all_eq_true.1 h3 (t, v) hm
          simp only [h1, Bool.false_or, Bool.and_eq_true, Bool.not_eq_true'] at this
          obtain ⟨g1, g2⟩ := this
          have e1 := hk1.1 t g1
          rw [stOf_tmp, stOf_tmp] at e1
          have e2 := hs t h1
          rw [hv] at e2 ⊢
          exact usS_wk g2 e2 e1
    · have hib := instV_box k L.vs y b hmat
      cases hbb : lkB k b.boxes with
      | none =>
        rw [hbb] at hib
        rw [hnone k hbb]
        cases hi : lkB k (instV L.vs y b).boxes with
        | none => trivial
        | some cs => rw [hi] at hib; exact hib.elim
      | some bs =>
        rw [hbb] at hib
        have hm := lkB_mem hbb
        have := List.all_eq_true.1 h4 (k, bs) hm
        simp only at this
        cases hpb : lkB k p1.boxes with
        | none => rw [hpb] at this; cases this
        | some cs =>
          rw [hpb] at this
          simp only [Bool.and_eq_true, Bool.not_eq_true'] at this
          obtain ⟨g1, g2⟩ := this
          cases hi : lkB k (instV L.vs y b).boxes with
          | none => rw [hi] at hib; exact hib.elim
          | some ds =>
            rw [hi] at hib
            obtain ⟨f1, f2⟩ := hib
            have hlen := usB_len g2
            refine All2.of_get (by simp only [cEs_length]; omega) fun j x z hx hz => ?_
            simp only [cEs, List.getElem?_map] at hx hz
            cases hdj : ds[j]? with
            | none => rw [hdj] at hz; cases hz
            | some c' =>
              rw [hdj] at hz
              cases hz
              cases hcj : cs[j]? with
              | none => rw [hcj] at hx; cases hx
              | some c0 =>
                rw [hcj] at hx
                cases hx
                rcases f2 j c' hdj with ⟨_, cs1, c1, e1, e2, e3⟩ | ⟨e1, e2⟩
                · rw [hpb] at e1
                  cases e1
                  rw [hcj] at e2
                  cases e2
                  exact .inl e3
                · have hu := usB_get g2 e2 hcj
                  rw [Nat.zero_add] at hu
                  rcases hu with hu | ⟨hu1, hu2⟩
                  · rw [e1] at hu; cases hu
                  · obtain ⟨hs0, q1, q2, q3⟩ := hb k bs hbb
                    obtain ⟨x0, x1, x2⟩ := q3 j e1 c' e2
                    have e4 := hk1.2 k g1
                    rw [stOf_box, stOf_box, q1, hpb] at e4
                    rcases e4 with e4 | ⟨as, as', r1, r2, r3, r4⟩
                    · cases e4
                    · cases r1
                      cases r2
                      obtain ⟨z0, z1, z2⟩ := r4 j hu1 c0 hcj
                      rw [x1] at z1
                      cases z1
                      exact usC_wk hu2 x2 z2
  · cases hfit

/-- the base keeps -/
theorem base_slot (L : LRec) (h : PSE) (t : Nat) : WkS (lkT t h.slots) (lkT t (base A L h).slots) := by
  have := (finE_keep A (stOf A h) (isBox_stOf A h) L.live L.lbox []).1 t rfl
  rw [stOf_tmp, stOf_tmp] at this
  exact this
theorem base_box (L : LRec) (h : PSE) (k : Key) (bs : List E) (hk : lkB k (base A L h).boxes = some bs) : ∃ cs, lkB k h.boxes = some cs ∧ cs.length = bs.length ∧ ∀ (j : Nat) c, bs[j]? = some c → ∃ c0, cs[j]? = some c0 ∧ WkE c0 c := by
  have := (finE_keep A (stOf A h) (isBox_stOf A h) L.live L.lbox []).2 k rfl
  rw [stOf_box, stOf_box] at this
  have hk' : lkB k (finE (stOf A h) L.live L.lbox).boxes = some bs := hk
  rw [hk'] at this
  rcases this with h | ⟨cs, cs', g1, g2, g3, g4⟩
  · cases h
  · cases g2
    cases hh : lkB k h.boxes with
    | none => rw [hh] at g1; cases g1
    | some x => rw [hh] at g1; cases g1; exact ⟨_, rfl, g3, fun j c hc => g4 j rfl c hc⟩
/-- a place of the head that an exit keeps is marked there too -/
def covers (H L : LRec) : Bool := H.vs.all fun q => match q with
  | .slot t _ | .slotR t _ => L.vs.any (Pl.isSlot t) || !L.live.contains t
  | .cell k j _ => L.vs.any (Pl.isCell k j) || !L.lbox.contains k
theorem covers_slot {H L : LRec} (h : covers H L = true) {t : Nat} (hl : L.vs.any (Pl.isSlot t) = false) (ht : t ∈ L.live) : H.vs.any (Pl.isSlot t) = false := by
  cases hh : H.vs.any (Pl.isSlot t) with
  | false => rfl
  | true =>
    obtain ⟨q, hq, hqt⟩ := List.any_eq_true.1 hh
    have := List.all_eq_true.1 h q hq
    cases q with
    | slot u _ => have e : t = u := by simpa [Pl.isSlot] using hqt
                  subst e; simp [hl, ht] at this
    | slotR u _ => have e : t = u := by simpa [Pl.isSlot] using hqt
                   subst e; simp [hl, ht] at this
    | cell k j _ => cases hqt
theorem covers_cell {H L : LRec} (h : covers H L = true) {k : Key} {j : Nat} (hl : L.vs.any (Pl.isCell k j) = false) (hk : k ∈ L.lbox) : H.vs.any (Pl.isCell k j) = false := by
  cases hh : H.vs.any (Pl.isCell k j) with
  | false => rfl
  | true =>
    obtain ⟨q, hq, hqt⟩ := List.any_eq_true.1 hh
    have := List.all_eq_true.1 h q hq
    cases q with
    | slot u _ => cases hqt
    | slotR u _ => cases hqt
    | cell k' i _ =>
      simp only [Pl.isCell, Bool.and_eq_true, beq_iff_eq] at hqt
      obtain ⟨e1, rfl⟩ := hqt
      have e1 := (keqb_iff k k').1 e1
      subst e1
      simp [hl, hk] at this
theorem base_live {L : LRec} {h : PSE} {t : Nat} (ht : t ∉ L.live) : lkT t (base A L h).slots = .undef := by
  show lkT t (finSlotsE (stOf A h) L.lbox L.live) = _
  rw [lkT_finSlots, if_neg ht]
theorem base_lbox {L : LRec} {h : PSE} {k : Key} {bs : List E} (hk : lkB k (base A L h).boxes = some bs) : k ∈ L.lbox := by
  have hk : lkB k (finBoxesE (stOf A h) L.lbox L.lbox) = some bs := hk
  rw [lkB_finBoxes] at hk
  split at hk
  · assumption
  · cases hk
/-- fitting a place of a loop whose head is (H, x) -/
theorem fit_loop (hF : FOK K A inb) {H L : LRec} (hc : covers H L = true) {h p : PSE} {x : VT H.vs} {y : VT L.vs} (hk : Keep p.dirty (stOf A (instV H.vs x h)) (stOf A p))
    (hfit : fit A inb L (base A L h) p = some y) (hr : PRel K (cPS A p) a w) : PRel K (cPS A (instV L.vs y (base A L h))) a w := by
  refine fit_rel hF hk (fun t hl => ?_) (fun k bs hbs => ?_) hfit hr
  · by_cases ht : t ∈ L.live
    · rw [instV_slot' H.vs x h t (covers_slot hc hl ht)]
      exact base_slot L h t
    · rw [base_live ht]; trivial
  · have hkl := base_lbox hbs
    obtain ⟨cs, h1, h2, h3⟩ := base_box L h k bs hbs
    have hi := instV_box' k H.vs x h
    rw [h1] at hi
    cases hx : lkB k (instV H.vs x h).boxes with
    | none => rw [hx] at hi; exact hi.elim
    | some ds =>
      rw [hx] at hi
      refine ⟨ds, rfl, hi.1.symm.trans h2, fun j hl c hc' => ?_⟩
      obtain ⟨c0, g1, g2⟩ := h3 j c hc'
      have hj : j < ds.length := by rw [← hi.1]; exact (List.getElem?_eq_some_iff.1 g1).1
      rcases hi.2 j ds[j] (List.getElem?_eq_getElem hj) with ⟨f1, _⟩ | ⟨_, f2⟩
      · rw [covers_cell hc hl hkl] at f1; cases f1
      · rw [g1] at f2
        cases f2
        exact ⟨_, List.getElem?_eq_getElem hj, g2⟩
theorem fit_head (hF : FOK K A inb) {H : LRec} {h p : PSE} {x : VT H.vs} {y : VT H.vs} (hk : Keep p.dirty (stOf A (instV H.vs x h)) (stOf A p))
    (hfit : fit A inb H h p = some y) (hr : PRel K (cPS A p) a w) : PRel K (cPS A (instV H.vs y h)) a w := by
  refine fit_rel hF hk (fun t hl => ?_) (fun k bs hbs => ?_) hfit hr
  · rw [instV_slot' H.vs x h t hl]; exact WkS.same _
  · have hi := instV_box' k H.vs x h
    rw [hbs] at hi
    cases hx : lkB k (instV H.vs x h).boxes with
    | none => rw [hx] at hi; exact hi.elim
    | some ds =>
      rw [hx] at hi
      refine ⟨ds, rfl, hi.1.symm, fun j hl c hc' => ?_⟩
      have hj : j < ds.length := by rw [← hi.1]; exact (List.getElem?_eq_some_iff.1 hc').1
      rcases hi.2 j ds[j] (List.getElem?_eq_getElem hj) with ⟨f1, _⟩ | ⟨_, f2⟩
      · rw [hl] at f1; cases f1
      · rw [hc'] at f2
        cases f2
        exact ⟨_, List.getElem?_eq_getElem hj, WkE.same _⟩
end

/-! ## Going round -/
def iterN {σ ρ : Type} (f : σ → Option (σ ⊕ ρ)) : Nat → σ → Option ρ
  | 0, _ => none
  | n + 1, x => match f x with
    | some (.inl y) => iterN f n y
    | some (.inr z) => some z
    | none => none
def fuel : Nat := 340282366920938463463374607431768211456
def loopR {σ ρ : Type} (f : σ → Option (σ ⊕ ρ)) (x : σ) : Option ρ := iterN f fuel x

def ExT : List (Ex × LRec) → Type
  | [] => Unit
  | e :: r => match r with
    | [] => VT e.2.vs
    | e' :: r => VT e.2.vs ⊕ ExT (e' :: r)
def ExT.dflt : (l : List (Ex × LRec)) → ExT l
  | [] => ()
  | [e] => VT.dflt e.2.vs
  | e :: _ :: _ => .inl (VT.dflt e.2.vs)
def marks : List Pl → Dirty
  | [] => []
  | .slot t _ :: r => (.tmp t, none) :: marks r
  | .slotR t _ :: r => (.tmp t, none) :: marks r
  | .cell k j _ :: r => (.box k, some (List.replicate j false ++ [true])) :: marks r
def leafOf (A : List SVE) (h : PSE) (d : Dirty) (L : LRec) (y : VT L.vs) : PSE := { instV L.vs y (base A L h) with dirty := marks L.vs ++ d }
def exq : Ex → Ex → Bool
  | .normal, .normal => true
  | .ret, .ret => true
  | .exit i, .exit j => i == j
  | _, _ => false
def classX (A : List SVE) (inb : List Key) (H : LRec) (h p : PSE) (e : Ex) : (l : List (Ex × LRec)) → Option (ExT l)
  | [] => none
  | [x] => match exq e x.1 && covers H x.2 with
    | true => fit A inb x.2 (base A x.2 h) p
    | false => none
  | x :: y :: r => match exq e x.1 with
    | true => match covers H x.2 with
      | true => match fit A inb x.2 (base A x.2 h) p with
        | some v => some (.inl v)
        | none => none
      | false => none
    | false => match classX A inb H h p e (y :: r) with
      | some v => some (.inr v)
      | none => none
def classL (A : List SVE) (inb : List Key) (R : LoopRec) (h : PSE) (x : Ex × PSE) : Tr (VT R.head.vs ⊕ ExT R.exits) :=
  match x.1 with
  | .normal => match fit A inb R.head h x.2 with
    | some y => .leaf (.inl y)
    | none => .fail
  | e => match classX A inb R.head h x.2 e R.exits with
    | some y => .leaf (.inr y)
    | none => .fail
def dispX (A : List SVE) (h : PSE) (d : Dirty) : (l : List (Ex × LRec)) → ExT l → Tr (Ex × PSE)
  | [], _ => .fail
  | [x], y => .leaf (x.1, leafOf A h d x.2 y)
  | x :: x' :: r, s => .sum s (fun y => .leaf (x.1, leafOf A h d x.2 y)) fun z => dispX A h d (x' :: r) z

/-! ## The evaluator -/
structure VFE where
  cfg : ECfg
  keys : List Nat
  bkeys : List Key
def nl : Code → Nat
  | .seq a b => nl a + nl b
  | .cond _ a b => nl a + nl b
  | .block _ b => nl b
  | .loop b => nl b + 1
  | .scope b => nl b
  | _ => 0
def condE (c : Operand) (p : PSE) : Option E :=
  match c with
  | .tmp t => match lkT t p.slots with
    | .one c => some c
    | _ => none
  | .const (.bool b) => some (kb b)
  | _ => none
def addD (d : Dirty) (x : Ex × PSE) : Ex × PSE := (x.1, { x.2 with dirty := x.2.dirty ++ d })
def fresh (p : PSE) : PSE := { p with dirty := [] }
def endR (F : VFE) (ops : Array Oper) (draw : Bool) (x : ESt × List (List Res × List Res)) : Tr (Ex × PSE) :=
  match draw with
  | false => .leaf (.normal, finE x.1 F.keys F.bkeys)
  | true => match drawOk ops x.2 with
    | true => .leaf (.normal, finE x.1 F.keys F.bkeys)
    | false => .fail
def outOf (id : Nat) (x : Ex × PSE) : Ex × PSE :=
  match x.1 with
  | .exit i => match i == id with
    | true => (.normal, x.2)
    | false => x
  | _ => x
def evC (F : VFE) (A : List SVE) (inb : List Key) (tbl : Nat → Option LoopRec) : Code → Nat → PSE → Tr (Ex × PSE)
  | .skip, _, p => .leaf (.normal, p)
  | .exit id, _, p => .leaf (.exit id, p)
  | .ret, _, p => .leaf (.ret, p)
  | .region _ ops draw, _, p => (joinT A inb ((runE F.cfg ops ops.toList (stOf A (fresh p))).bind (endR F ops draw))).map (addD p.dirty)
  | .seq a b, n, p => (evC F A inb tbl a n p).bind fun x => match x.1 with
    | .normal => evC F A inb tbl b (n + nl a) x.2
    | _ => .leaf x
  | .cond c a b, n, p => match condE c p with
    | some .tt => evC F A inb tbl a n p
    | some .ff => evC F A inb tbl b (n + nl a) p
    | some (.b x) => (joinT A inb (.br x (evC F A inb tbl a n (fresh p)) (evC F A inb tbl b (n + nl a) (fresh p)))).map (addD p.dirty)
    | _ => .fail
  | .block id b, n, p => (joinT A inb ((evC F A inb tbl b n (fresh p)).map (outOf id))).map (addD p.dirty)
  | .scope b, n, p => evC F A inb tbl b n p
  | .loop b, n, p => match tbl n with
    | some R =>
      let h := base A R.head p
      match okBk A inb R.head.lbox, matV R.head.vs h with
      | true, some x0 => .call (ExT.dflt R.exits) (loopR (fun x => ((evC F A inb tbl b (n + 1) (instV R.head.vs x h)).bind (classL A inb R h)).run) x0) (dispX A h p.dirty R.exits)
      | _, _ => .fail
    | none => .fail
  | _, _, _ => .fail
end Go.Ve
namespace Go.Ve
open Go.Vs
theorem all_map {α β : Type} (t : Tr α) (f : α → β) (Q : β → Prop) : (t.map f).all Q ↔ t.all fun a => Q (f a) := by
 induction t with
 | leaf a => rfl
 | fail => exact Iff.rfl
 | br c t e iht ihe => simp only [Tr.map, Tr.all, iht, ihe]
 | call d o k ih => simp only [Tr.map, Tr.all, ih]
 | sum o k k' ih ih' => simp only [Tr.map, Tr.all, ih, ih']
theorem all_bind {α β : Type} (t : Tr α) (f : α → Tr β) (Q : β → Prop) : (t.bind f).all Q ↔ t.all fun a => (f a).all Q := by
 induction t with
 | leaf a => rfl
 | fail => exact Iff.rfl
 | br c t e iht ihe => simp only [Tr.bind, Tr.all, iht, ihe]
 | call d o k ih => simp only [Tr.bind, Tr.all, ih]
 | sum o k k' ih ih' => simp only [Tr.bind, Tr.all, ih, ih']
theorem Keep.moreR {d l : Dirty} {s s' : ESt} (h : Keep d s s') : Keep (d ++ l) s s' := by
 refine ⟨fun t ht => h.1 t ?_, fun k hk => ?_⟩
 ·rw [tch_append, Bool.or_eq_false_iff] at ht; exact ht.1
 ·rw [whole_append, Bool.or_eq_false_iff] at hk
  rcases h.2 k hk.1 with h | ⟨cs, cs', g1, g2, g3, g4⟩
  ·exact .inl h
  ·refine .inr ⟨cs, cs', g1, g2, g3, fun j hj => g4 j ?_⟩
   rw [part_append, Bool.or_eq_false_iff] at hj
   exact hj.1
theorem Keep.self (A : List SVE) (p : PSE) (d : Dirty) : Keep d (stOf A p) (stOf A p) := Keep.of_get (isBox_stOf A p) (fun _ _ _ => rfl) fun k _ _ => WkB.same (isBox_stOf A p k)
theorem KeepL.self (A : List SVE) (p : PSE) (e : Ex) : KeepL (stOf A p) A (e, p) := ⟨⟨[], rfl⟩, Keep.self A p _⟩
theorem KeepL.addD {A : List SVE} {p : PSE} {x : Ex × PSE} (h : KeepL (stOf A (fresh p)) A x) : KeepL (stOf A p) A (Ve.addD p.dirty x) := ⟨⟨x.2.dirty, rfl⟩, Keep.moreR (l := p.dirty) h.2⟩
theorem KeepL.trans {A : List SVE} {p p1 : PSE} {e : Ex} {x : Ex × PSE} (h : KeepL (stOf A p) A (e, p1)) (h' : KeepL (stOf A p1) A x) : KeepL (stOf A p) A x := by
 obtain ⟨⟨l1, e1⟩, k1⟩ := h
 obtain ⟨⟨l2, e2⟩, k2⟩ := h'
 have e2 : x.2.dirty = l2 ++ p1.dirty := e2
 have e1 : p1.dirty = l1 ++ p.dirty := e1
 refine ⟨⟨l2 ++ l1, by rw [e2, e1, List.append_assoc]; rfl⟩, Keep.trans ?_ k2⟩
 rw [e2]
 exact k1.more
theorem KeepL.outOf {s : ESt} {A : List SVE} {id : Nat} {x : Ex × PSE} (h : KeepL s A x) : KeepL s A (Ve.outOf id x) := by
 unfold Ve.outOf
 split
 ·split
  ·exact h
  ·exact h
 ·exact h
theorem marks_slot {l : List Pl} {d : Dirty} {t : Nat} (h : tch (.tmp t) (marks l ++ d) = false) : l.any (Pl.isSlot t) = false := by
 rw [tch_append, Bool.or_eq_false_iff] at h
 obtain ⟨h, _⟩ := h
 induction l with
 | nil => rfl
 | cons q l ih =>
  cases q with
  | slot u _ =>
   have h : (t == u || tch (.tmp t) (marks l)) = false := h
   rw [Bool.or_eq_false_iff] at h
   simp only [List.any_cons, Pl.isSlot, h.1, ih h.2]; rfl
  | slotR u _ =>
   have h : (t == u || tch (.tmp t) (marks l)) = false := h
   rw [Bool.or_eq_false_iff] at h
   simp only [List.any_cons, Pl.isSlot, h.1, ih h.2]; rfl
  | cell k j _ =>
   have h : (false || tch (.tmp t) (marks l)) = false := h
   rw [Bool.false_or] at h
   simp only [List.any_cons, Pl.isSlot, ih h]; rfl
theorem marks_cell {l : List Pl} {d : Dirty} {k : Key} {j : Nat} (h : part (.box k) j (marks l ++ d) = false) : l.any (Pl.isCell k j) = false := by
 rw [part_append, Bool.or_eq_false_iff] at h
 obtain ⟨h, _⟩ := h
 induction l with
 | nil => rfl
 | cons q l ih =>
  cases q with
  | slot u _ =>
   have h : ((false && true) || part (.box k) j (marks l)) = false := h
   simp only [Bool.false_and, Bool.false_or] at h
   simp only [List.any_cons, Pl.isCell, ih h]; rfl
  | slotR u _ =>
   have h : ((false && true) || part (.box k) j (marks l)) = false := h
   simp only [Bool.false_and, Bool.false_or] at h
   simp only [List.any_cons, Pl.isCell, ih h]; rfl
  | cell k' i _ =>
   have h : ((keqb k k' && (List.replicate i false ++ [true]).getD j false) || part (.box k) j (marks l)) = false := h
   rw [Bool.or_eq_false_iff] at h
   obtain ⟨h1, h2⟩ := h
   simp only [List.any_cons, Pl.isCell, ih h2, Bool.or_false]
   cases hk : keqb k k' with
   | false => rfl
   | true =>
    rw [hk, Bool.true_and] at h1
    cases hj : j == i with
    | false => rfl
    | true =>
     have e : j = i := by simpa using hj
     subst e
     rw [List.getD_eq_getElem?_getD, List.getElem?_append_right (by simp)] at h1
     simp at h1
theorem leafOf_keep (A : List SVE) (H L : LRec) (p : PSE) (y : VT L.vs) (e : Ex) : KeepL (stOf A p) A (e, leafOf A (base A H p) p.dirty L y) := by
 refine ⟨⟨marks L.vs, rfl⟩, fun t ht => ?_, fun k hk => ?_⟩
 ·rw [stOf_tmp, stOf_tmp]
  have hl := marks_slot (l := L.vs) (d := p.dirty) ht
  show WkS (lkT t p.slots) (lkT t (instV L.vs y (base A L (base A H p))).slots)
  rw [instV_slot' L.vs y _ t hl]
  exact WkS.trans (base_slot H p t) (base_slot L _ t)
 ·rw [stOf_box, stOf_box]
  show WkB k (marks L.vs ++ p.dirty) (match lkB k p.boxes with | some cs => .agg cs | none => .undef) (match lkB k (instV L.vs y (base A L (base A H p))).boxes with | some cs => .agg cs | none => .undef)
  have hi := instV_box' k L.vs y (base A L (base A H p))
  cases h2 : lkB k (base A L (base A H p)).boxes with
  | none =>
   rw [h2] at hi
   cases h3 : lkB k (instV L.vs y (base A L (base A H p))).boxes with
   | none => exact .inl rfl
   | some ds => rw [h3] at hi; exact hi.elim
  | some bs =>
   rw [h2] at hi
   cases h3 : lkB k (instV L.vs y (base A L (base A H p))).boxes with
   | none => rw [h3] at hi; exact hi.elim
   | some ds =>
    rw [h3] at hi
    obtain ⟨cs, f1, f2, f3⟩ := base_box L _ k bs h2
    obtain ⟨as, g1, g2, g3⟩ := base_box H p k cs f1
    rw [g1]
    refine .inr ⟨as, ds, rfl, rfl, by rw [g2, f2]; exact hi.1, fun j hj c hc => ?_⟩
    have hl := marks_cell (l := L.vs) (d := p.dirty) hj
    rcases hi.2 j c hc with ⟨e1, _⟩ | ⟨_, e2⟩
    ·rw [hl] at e1; cases e1
    ·obtain ⟨c1, q1, q2⟩ := f3 j c e2
     obtain ⟨c0, q3, q4⟩ := g3 j c1 q1
     exact ⟨c0, q3, WkE.trans q4 q2⟩
theorem dispX_keep (A : List SVE) (H : LRec) (p : PSE) : ∀ (l : List (Ex × LRec)) (z : ExT l), (dispX A (base A H p) p.dirty l z).each (KeepL (stOf A p) A)
 | [], _ => trivial
 | [x], y => leafOf_keep A H x.2 p y x.1
 | x :: x' :: r, _ => ⟨fun y => leafOf_keep A H x.2 p y x.1, fun z => dispX_keep A H p (x' :: r) z⟩
section
variable {K : Ctx} {F : VFE} {A : List SVE} {inb : List Key} {tbl : Nat → Option LoopRec}
theorem evC_keep (hF : FOK K A inb) : ∀ (c : Code) (n : Nat) (p : PSE), (evC F A inb tbl c n p).each (KeepL (stOf A p) A) := by
 intro c
 induction c with
 | skip => intro n p; exact KeepL.self A p _
 | exit id => intro n p; exact KeepL.self A p _
 | ret => intro n p; exact KeepL.self A p _
 | region id ops draw =>
  intro n p
  simp only [evC]
  rw [Tr.each_map]
  refine Tr.each_mono (fun x hx => KeepL.addD hx) (joinT_spec hF _ ?_).1
  rw [Tr.each_bind]
  refine Tr.each_mono ?_ (runE_step F.cfg ops ops.toList (stOf A (fresh p)) (isBox_stOf A (fresh p)))
  rintro ⟨s, fps⟩ ⟨hb, ha, l, hl, hk⟩
  have leaf : KeepL (stOf A (fresh p)) A (.normal, finE s F.keys F.bkeys) := ⟨⟨l, hl⟩, Keep.trans hk (finE_keep A s hb _ _ _)⟩
  unfold endR
  cases draw with
  | false => exact leaf
  | true =>
   simp only
   split
   ·exact leaf
   ·trivial
 | seq a b iha ihb =>
  intro n p
  simp only [evC]
  rw [Tr.each_bind]
  refine Tr.each_mono ?_ (iha n p)
  rintro ⟨e, p1⟩ h
  cases e with
  | normal => exact Tr.each_mono (fun x hx => KeepL.trans h hx) (ihb _ p1)
  | exit i => exact h
  | ret => exact h
 | cond c a b iha ihb =>
  intro n p
  simp only [evC]
  split
  ·exact iha n p
  ·exact ihb _ p
  ·rename_i x _
   rw [Tr.each_map]
   exact Tr.each_mono (fun x hx => KeepL.addD hx) (joinT_spec hF (.br x (evC F A inb tbl a n (fresh p)) (evC F A inb tbl b (n + nl a) (fresh p))) ⟨iha n (fresh p), ihb _ (fresh p)⟩).1
  ·trivial
 | block id b ih =>
  intro n p
  simp only [evC]
  rw [Tr.each_map]
  refine Tr.each_mono (fun x hx => KeepL.addD hx) (joinT_spec hF _ ?_).1
  rw [Tr.each_map]
  exact Tr.each_mono (fun x hx => KeepL.outOf hx) (ih n (fresh p))
 | scope b ih => intro n p; exact ih n p
 | loop b ih =>
  intro n p
  simp only [evC]
  split
  ·split
   ·intro z; exact dispX_keep A _ p _ z
   ·trivial
  ·trivial
 | _ => intro n p; exact trivial
def PostE (K : Ctx) (A : List SVE) (Q : Ex × PSE → Prop) (e : Exit) (a : Act) (w : World) : Prop := ∃ x, e = exOf x.1 ∧ Q x ∧ PRel K (cPS A x.2) a w
theorem PostE.reach {Q : Ex × PSE → Prop} {e : Exit} {a : Act} {w : World} (h : PostE K A (Reach K A Q) e a w) : PostE K A Q e a w := by
 obtain ⟨x, rfl, h1, h2⟩ := h
 obtain ⟨y, g1, g2, g3⟩ := h1 a w h2
 exact ⟨y, g1, g2, g3⟩
theorem iterN_step {σ ρ : Type} {f : σ → Option (σ ⊕ ρ)} {n : Nat} {x : σ} {z : ρ} (h : iterN f (n + 1) x = some z) : (∃ y, f x = some (.inl y) ∧ iterN f n y = some z) ∨ f x = some (.inr z) := by
 simp only [iterN] at h
 split at h
 ·rename_i y hy; exact .inl ⟨y, hy, h⟩
 ·rename_i z' hz; cases h; exact .inr hz
 ·cases h
theorem classX_spec (hF : FOK K A inb) {H : LRec} {h p : PSE} {x : VT H.vs} {e : Ex} {d : Dirty} {a : Act} {w : World} (hk : Keep p.dirty (stOf A (instV H.vs x h)) (stOf A p)) (hr : PRel K (cPS A p) a w) : ∀ (l : List (Ex × LRec)) (z : ExT l), classX A inb H h p e l = some z →
  ∀ Q, (dispX A h d l z).all Q → ∃ q, Q (e, q) ∧ PRel K (cPS A q) a w := by
 have exq_eq : ∀ {e e' : Ex}, exq e e' = true → e = e' := by
  intro e e' h
  cases e <;> cases e' <;> first | rfl | (simp [exq] at h; done) | (simp [exq] at h; rw [h])
 intro l
 induction l with
 | nil => intro z hz; cases hz
 | cons y r ih =>
  intro z hz Q hQ
  cases r with
  | nil =>
   simp only [classX] at hz
   split at hz
   ·rename_i hc
    simp only [Bool.and_eq_true] at hc
    have := exq_eq hc.1
    subst this
    exact ⟨_, hQ, fit_loop hF hc.2 hk hz hr⟩
   ·cases hz
  | cons y' r =>
   simp only [classX] at hz
   split at hz
   ·rename_i hc
    have := exq_eq hc
    subst this
    split at hz
    ·rename_i hcv
     split at hz
     ·rename_i v hv
      cases hz
      exact ⟨_, hQ.1 v rfl, fit_loop hF hcv hk hv hr⟩
     ·cases hz
    ·cases hz
   ·split at hz
    ·rename_i v hv
     cases hz
     exact ih v hv Q (hQ.2 v rfl)
    ·cases hz
theorem evC_sound (hC : COK K.P F.cfg.c) (hN : K.N = F.cfg.N) (hmix : K.P.follows .mixedOrders = true) (hF : FOK K A inb) (hbk : okBk A inb F.bkeys = true) :
  ∀ (c : Code) (n : Nat) (p : PSE) (Q : Ex × PSE → Prop) (a : Act) (w : World), (evC F A inb tbl c n p).all Q → PRel K (cPS A p) a w → c.wp K.P (PostE K A Q) a w := by
 obtain ⟨hok, hin⟩ := hF.bk hbk
 intro c
 induction c with
 | skip => intro n p Q a w h hp; exact wp_skip ⟨(.normal, p), rfl, h, hp⟩
 | exit id => intro n p Q a w h hp; exact wp_exit ⟨(.exit id, p), rfl, h, hp⟩
 | ret => intro n p Q a w h hp; exact wp_ret ⟨(.ret, p), rfl, h, hp⟩
 | region id ops draw =>
  intro n p Q a w h hp
  simp only [evC] at h
  rw [all_map] at h
  have hkeep : ((runE F.cfg ops ops.toList (stOf A (fresh p))).bind (endR F ops draw)).each (KeepL (stOf A (fresh p)) A) := by
   rw [Tr.each_bind]
   refine Tr.each_mono ?_ (runE_step F.cfg ops ops.toList (stOf A (fresh p)) (isBox_stOf A (fresh p)))
   rintro ⟨s, fps⟩ ⟨hb, ha, l, hl, hk⟩
   have leaf : KeepL (stOf A (fresh p)) A (.normal, finE s F.keys F.bkeys) := ⟨⟨l, hl⟩, Keep.trans hk (finE_keep A s hb _ _ _)⟩
   unfold endR
   cases draw with
   | false => exact leaf
   | true =>
    simp only
    split
    ·exact leaf
    ·trivial
  have h1 := (joinT_spec hF _ hkeep).2 _ h
  rw [all_bind] at h1
  have h2 := Tr.all_and (Tr.all_and h1 (runE_sim F.cfg ops ops.toList (stOf A (fresh p)))) (Tr.each_box (runE_step F.cfg ops ops.toList (stOf A (fresh p)) (isBox_stOf A (fresh p))))
  obtain ⟨⟨s, fps⟩, _, ⟨h3, h4⟩, h5⟩ := (Tr.all_iff _ _).1 h2
  simp only at h3 h4 h5
  obtain ⟨fps', h4, hsub⟩ := h4
  obtain ⟨e1, e2⟩ := runBoth_spec F.cfg.c ops _ _ _ _ h4
  have hg : Vs.Good K (cSt (stOf A (fresh p))) a w := by rw [cSt_stOf]; exact hp.1
  have hend : (draw = true → drawOk ops fps = true) ∧ Reach K A (fun x => Q (addD p.dirty x)) (.normal, finE s F.keys F.bkeys) := by
   unfold endR at h3
   cases draw with
   | false => exact ⟨fun h => (by cases h), h3⟩
   | true =>
    simp only at h3
    split at h3
    ·rename_i hd; exact ⟨fun _ => hd, h3⟩
    ·exact h3.elim
  refine region_sim hC hN hmix e1 (fun hd => ?_) hg fun a' w' hg' => ?_
  ·have := hend.1 hd
   simp only [drawOk, Bool.and_eq_true] at this
   refine ⟨?_, this.1⟩
   unfold orderOk
   rw [e2]
   exact hsub.pairs this.2
  ·obtain ⟨y, g1, g2, g3⟩ := hend.2 a' w' (finE_rel h5.2.1 hF.size hok hin hg')
   exact ⟨addD p.dirty y, g1, g2, g3⟩
 | seq x y ihx ihy =>
  intro n p Q a w h hp
  simp only [evC] at h
  rw [all_bind] at h
  refine wp_seq (wp_mono (ihx n p _ a w h hp) ?_)
  rintro e a' w' ⟨⟨ex, p'⟩, rfl, hq, hp'⟩
  cases ex with
  | normal => exact ihy _ p' Q a' w' hq hp'
  | exit i => exact ⟨_, rfl, hq, hp'⟩
  | ret => exact ⟨_, rfl, hq, hp'⟩
 | cond c x y ihx ihy =>
  intro n p Q a w h hp
  have hcv : ∀ e, condE c p = some e → ∀ b, cE e = .d (.bool b) → a.eval c = .bool b := by
   intro e he b hb
   unfold condE at he
   split at he
   ·rename_i t
    split at he
    ·rename_i c' hl
     cases he
     obtain ⟨β, ω, Z, hr⟩ := hp.1
     have := hr.tmps t
     rw [cPS_tmp, hl] at this
     have h2 := this.2
     rw [hb] at h2
     exact h2
    ·cases he
   ·rename_i b'
    cases he
    have : b' = b := by cases b' <;> cases b <;> first | rfl | (simp [kb, cE] at hb)
    subst this
    rfl
   ·cases he
  simp only [evC] at h
  split at h
  ·rename_i he
   exact wp_cond_split (hcv _ he true rfl) (fun _ => ihx n p Q a w h hp) (fun hb => by cases hb)
  ·rename_i he
   exact wp_cond_split (hcv _ he false rfl) (fun hb => by cases hb) (fun _ => ihy _ p Q a w h hp)
  ·rename_i b he
   rw [all_map] at h
   have h1 := (joinT_spec (p0 := stOf A (fresh p)) hF (.br b (evC F A inb tbl x n (fresh p)) (evC F A inb tbl y (n + nl x) (fresh p))) ⟨evC_keep (F := F) (tbl := tbl) hF x n (fresh p), evC_keep (F := F) (tbl := tbl) hF y _ (fresh p)⟩).2 _ h
   have fin : ∀ e a w, PostE K A (Reach K A fun x => Q (addD p.dirty x)) e a w → PostE K A Q e a w := by
    intro e a w hh
    obtain ⟨z, g1, g2, g3⟩ := PostE.reach hh
    exact ⟨addD p.dirty z, g1, g2, g3⟩
   exact wp_cond_split (hcv _ he b rfl) (fun hb => wp_mono (ihx n (fresh p) _ a w (h1.1 hb) hp) fun e a' w' hh => fin e a' w' hh) (fun hb => wp_mono (ihy _ (fresh p) _ a w (h1.2 hb) hp) fun e a' w' hh => fin e a' w' hh)
  ·exact h.elim
 | block id b ih =>
  intro n p Q a w h hp
  simp only [evC] at h
  rw [all_map] at h
  have hkeep : ((evC F A inb tbl b n (fresh p)).map (outOf id)).each (KeepL (stOf A (fresh p)) A) := by
   rw [Tr.each_map]
   exact Tr.each_mono (fun x hx => KeepL.outOf hx) (evC_keep hF b n (fresh p))
  have h1 := (joinT_spec hF _ hkeep).2 _ h
  rw [all_map] at h1
  refine wp_block (wp_mono (ih n (fresh p) _ a w h1 hp) ?_)
  rintro e a' w' ⟨⟨ex, p'⟩, rfl, hq, hp'⟩
  have hp2 : PRel K (cPS A (outOf id (ex, p')).2) a' w' := by
   unfold outOf
   cases ex with
   | exit i => simp only; split <;> exact hp'
   | _ => exact hp'
  obtain ⟨y, g1, g2, g3⟩ := hq a' w' hp2
  have fin : PostE K A Q (exOf (outOf id (ex, p')).1) a' w' := ⟨addD p.dirty y, g1, g2, g3⟩
  cases ex with
  | normal => exact fin
  | ret => exact fin
  | exit i =>
   show if i = id then PostE K A Q .normal a' w' else PostE K A Q (.exit i) a' w'
   by_cases hi : i = id
   ·rw [if_pos hi]
    unfold outOf at fin
    simp only [hi, beq_self_eq_true] at fin
    exact fin
   ·rw [if_neg hi]
    have : (i == id) = false := by simpa using hi
    unfold outOf at fin
    simp only [this] at fin
    exact fin
 | scope b ih =>
  intro n p Q a w h hp
  simp only [evC] at h
  refine wp_scope_straight (wp_mono (ih n p Q a w h hp) ?_)
  rintro e a' w' ⟨⟨ex, p'⟩, rfl, hq, hp'⟩
  cases ex <;> exact ⟨_, rfl, hq, hp'⟩
 | loop b ih =>
  intro n p Q a w h hp
  simp only [evC] at h
  split at h
  ·rename_i R hR
   split at h
   ·rename_i x0 hx hm
    obtain ⟨z, hz, hQ⟩ := h
    generalize hh : base A R.head p = hd at *
    have hp0 : PRel K (cPS A (instV R.head.vs x0 hd)) a w := by
     have h1 : PRel K (cPS A hd) a w := by rw [← hh]; exact PRel.finE (p := p) hF hx R.head.live hp
     refine Rel.toPRel hF.size h1 (instV_frz _ _ _).1 (fun t => ?_) fun k => ?_
     ·rcases instV_slot R.head.vs x0 hd hm t with ⟨_, h2⟩ | ⟨_, h2⟩
      ·rw [h2]
       cases lkT t hd.slots with
       | one c => exact .inl rfl
       | agg cs => exact WkC.all_refl _
       | tup vs => exact All2.same (R := fun p q : Bool × List C => p.1 = q.1 ∧ All2 WkC p.2 q.2) (fun p => ⟨rfl, WkC.all_refl _⟩) _
       | undef => trivial
      ·rw [h2]
       cases lkT t hd.slots with
       | one c => exact .inl rfl
       | agg cs => exact WkC.all_refl _
       | tup vs => exact All2.same (R := fun p q : Bool × List C => p.1 = q.1 ∧ All2 WkC p.2 q.2) (fun p => ⟨rfl, WkC.all_refl _⟩) _
       | undef => trivial
     ·have hi := instV_box k R.head.vs x0 hd hm
      cases h1 : lkB k hd.boxes with
      | none =>
       rw [h1] at hi
       cases h2 : lkB k (instV R.head.vs x0 hd).boxes with
       | none => trivial
       | some cs => rw [h2] at hi; exact hi.elim
      | some bs =>
       rw [h1] at hi
       cases h2 : lkB k (instV R.head.vs x0 hd).boxes with
       | none => rw [h2] at hi; exact hi.elim
       | some cs =>
        rw [h2] at hi
        refine All2.of_get (by simpa using hi.1) fun j u c hu hc => ?_
        simp only [cEs, List.getElem?_map] at hu hc
        cases hcj : cs[j]? with
        | none => rw [hcj] at hc; cases hc
        | some c1 =>
         rw [hcj] at hc
         cases hc
         cases hbj : bs[j]? with
         | none => rw [hbj] at hu; cases hu
         | some c0 =>
          rw [hbj] at hu
          cases hu
          rcases hi.2 j c1 hcj with ⟨_, cs', c2, e1, e2, e3⟩ | ⟨_, e2⟩
          ·rw [h1] at e1
           cases e1
           rw [hbj] at e2
           cases e2
           exact .inl e3
          ·rw [hbj] at e2; cases e2; exact .inl rfl
    intro fb k cs
    have key : ∀ (m : Nat) (x : VT R.head.vs) (a : Act) (w : World), iterN (fun x => ((evC F A inb tbl b (n + 1) (instV R.head.vs x hd)).bind (classL A inb R hd)).run) m x = some z → PRel K (cPS A (instV R.head.vs x hd)) a w →
      ∃ e a' w', PostE K A Q e a' w' ∧ Arrives K.P (lone (fb.at a (.code b :: .inLoop b :: k)) cs w) fb k cs e a' w' := by
     intro m
     induction m with
     | zero => intro x a w hi; cases hi
     | succ m ihm =>
      intro x a w hi hp1
      have hstep := iterN_step hi
      have round : ∀ o, ((evC F A inb tbl b (n + 1) (instV R.head.vs x hd)).bind (classL A inb R hd)).run = some o → b.wp K.P (PostE K A fun y => (classL A inb R hd y).all (fun v => v = o) ∧ KeepL (stOf A (instV R.head.vs x hd)) A y) a w := by
       intro o ho
       have h1 := (Tr.all_iff _ (fun v => v = o)).2 ⟨o, ho, rfl⟩
       rw [all_bind] at h1
       exact ih (n + 1) _ _ a w (Tr.all_and h1 (Tr.each_box (evC_keep hF b (n + 1) _))) hp1
      have exit : ∀ (ex : Ex) (p' : PSE) (o : VT R.head.vs ⊕ ExT R.exits) (a₁ : Act) (w₁ : World), ex ≠ .normal → (classL A inb R hd (ex, p')).all (fun v => v = o) → KeepL (stOf A (instV R.head.vs x hd)) A (ex, p') → PRel K (cPS A p') a₁ w₁ → ∃ z', o = .inr z' ∧ ∀ Q, (dispX A hd p.dirty R.exits z').all Q → ∃ q, Q (ex, q) ∧ PRel K (cPS A q) a₁ w₁ := by
       intro ex p' o a₁ w₁ hne hcl hkeep hp'
       have hcx : (match classX A inb R.head hd p' ex R.exits with | some y => Tr.leaf (Sum.inr y) | none => Tr.fail : Tr (VT R.head.vs ⊕ ExT R.exits)).all (fun v => v = o) := by
        cases ex with
        | normal => exact absurd rfl hne
        | _ => exact hcl
       split at hcx
       ·rename_i z' hz'
        exact ⟨z', hcx.symm, classX_spec hF hkeep.2 hp' R.exits z' hz'⟩
       ·exact hcx.elim
      rcases hstep with ⟨x', hs, hrest⟩ | hs
      ·obtain ⟨e, a₁, w₁, ⟨⟨ex, p'⟩, rfl, ⟨hcl, hkeep⟩, hp'⟩, harr⟩ := round _ hs fb (.inLoop b :: k) cs
       cases ex with
       | normal =>
        simp only [classL] at hcl
        split at hcl
        ·rename_i y hy
         have e : y = x' := by cases hcl; rfl
         subst e
         obtain ⟨e₂, a₂, w₂, hq₂, harr₂⟩ := ihm y a₁ w₁ hrest (fit_head hF hkeep.2 hy hp')
         exact ⟨e₂, a₂, w₂, hq₂, .of_steps (Steps.trans harr (.one step_inLoop)) harr₂⟩
        ·exact hcl.elim
       | exit i => obtain ⟨z', h1, _⟩ := exit _ p' _ a₁ w₁ (by simp) hcl hkeep hp'; cases h1
       | ret => obtain ⟨z', h1, _⟩ := exit _ p' _ a₁ w₁ (by simp) hcl hkeep hp'; cases h1
      ·obtain ⟨e, a₁, w₁, ⟨⟨ex, p'⟩, rfl, ⟨hcl, hkeep⟩, hp'⟩, harr⟩ := round _ hs fb (.inLoop b :: k) cs
       have hne : ex ≠ .normal := by
        rintro rfl
        simp only [classL] at hcl
        split at hcl
        ·cases hcl
        ·exact hcl
       obtain ⟨z', h1, h2⟩ := exit _ p' _ a₁ w₁ hne hcl hkeep hp'
       cases h1
       obtain ⟨q, hq, hpq⟩ := h2 Q hQ
       refine ⟨_, a₁, w₁, ⟨(ex, q), rfl, hq, hpq⟩, .pass (x := .inLoop b) rfl (fun _ _ => .inl ?_) harr⟩
       cases ex <;> first | exact absurd rfl hne | simp [exOf]
    obtain ⟨e, a', w', hq, harr⟩ := key fuel x0 a w hz hp0
    exact ⟨e, a', w', hq, .of_steps (.one step_loop) harr⟩
   ·exact h.elim
  ·exact h.elim
 | _ => intro n p Q a w h hp; exact h.elim
end
end Go.Ve
namespace Go.Ve
open Go.Vs
def mapO {α β : Type} (f : α → Option β) : List α → Option (List β)
 | [] => some []
 | a :: r => match f a, mapO f r with
  | some b, some l => some (b :: l)
  | _, _ => none
theorem mapO_map {α β : Type} {f : α → Option β} {g : β → α} (h : ∀ b, f (g b) = some b) : ∀ (l : List β), mapO f (l.map g) = some l
 | [] => rfl
 | b :: l => by simp only [List.map_cons, mapO, h, mapO_map h l]
def decT : (t : Ty) → List D → Option (t.T × List D)
 | .int k => fun ds => match ds with
  | .int k' n :: r => if k' = k then some (n, r) else none
  | _ => none
 | .bool => fun ds => match ds with
  | .bool b :: r => some (b, r)
  | _ => none
 | .str => fun ds => match ds with
  | .str s :: r => some (s, r)
  | _ => none
 | .sl t => fun ds => match ds with
  | .nil :: r => some (none, r)
  | .sl e xs :: r => if e = t.e then (match mapO (fun x => match decT t x with | some (y, []) => some y | _ => none) xs with | some l => some (some l, r) | none => none) else none
  | _ => none
 | .pair h t => fun ds => match decT h ds with
  | some (x, r) => match decT t r with
   | some (y, r') => some ((x, y), r')
   | none => none
  | none => none
 | .set k => fun ds => decT k ds
 | .ent _ h t => fun ds => match decT h ds with
  | some (x, r) => match decT t r with
   | some (y, r') => some ((x, y), r')
   | none => none
  | none => none
theorem decT_enc : ∀ (t : Ty) (x : t.T) (r : List D), decT t (encR t x ++ r) = some (x, r)
 | .int k, n, r => by simp [decT, encR]
 | .bool, b, r => rfl
 | .str, s, r => rfl
 | .sl t, o, r => by
  cases o with
  | none => rfl
  | some xs =>
   simp only [encR, List.cons_append, List.nil_append, decT, if_true]
   rw [mapO_map (f := fun x => match decT t x with | some (y, []) => some y | _ => none) (g := encR t) (fun b => by
    have := decT_enc t b []
    rw [List.append_nil] at this
    simp only [this])]
 | .pair h t, x, r => by
  simp only [encR, decT, List.append_assoc]
  rw [decT_enc h x.1]
  simp only
  rw [decT_enc t x.2]
 | .set k, x, r => decT_enc k x r
 | .ent _ h t, x, r => by
  simp only [encR, decT, List.append_assoc]
  rw [decT_enc h x.1]
  simp only
  rw [decT_enc t x.2]
def decRow (t : Ty) (ds : List D) : Option t.T := match decT t ds with | some (y, []) => some y | _ => none
theorem decRow_enc (t : Ty) (x : t.T) : decRow t (encR t x) = some x := by
 unfold decRow
 have := decT_enc t x []
 rw [List.append_nil] at this
 rw [this]
def decRows (t : Ty) (xs : List (List D)) : Option (List t.T) := mapO (decRow t) xs
theorem decRows_enc (t : Ty) (xs : List t.T) : decRows t (xs.map (encR t)) = some xs := mapO_map (decRow_enc t) xs
def Sh.dec : (h : Sh) → C → Option h.T
 | .i k => fun c => match c with
  | .d (.int k' x) => if k' = k then some x else none
  | _ => none
 | .b => fun c => match c with
  | .d (.bool x) => some x
  | _ => none
 | .s => fun c => match c with
  | .d (.str x) => some x
  | _ => none
 | .l m t => fun c => match m, c with
  | .data, .d (.sl e xs) => if e = t.e then decRows t xs else none
  | .own, .own e xs => if e = t.e then decRows t xs else none
  | _, _ => none
 | .n m t => fun c => match m, c with
  | .data, .d .nil => some none
  | .own, .d .nil => some none
  | .data, .d (.sl e xs) => if e = t.e then (decRows t xs).map some else none
  | .own, .own e xs => if e = t.e then (decRows t xs).map some else none
  | _, _ => none
 | .p k off => fun c => match c with
  | .ptr k' off' => if k = k' ∧ off = off' then some () else none
  | _ => none
def Sh.notP : Sh → Bool
 | .p _ _ => false
 | _ => true
def Sh.plain : Sh → Bool
 | .l (.bor ..) _ => false
 | .n (.bor ..) _ => false
 | _ => true
theorem Sh.dec_inst : ∀ {h : Sh} (x : h.T), h.plain = true → h.dec (cE (h.inst x)) = some x
 | .i k, x, _ => by simp [Sh.dec, Sh.inst, cE]
 | .b, x, _ => rfl
 | .s, x, _ => rfl
 | .p k off, x, _ => by simp [Sh.dec, Sh.inst, cE]
 | .l m t, x, hp => by
  cases m with
  | bor => cases hp
  | data => simp only [Sh.dec, Sh.inst, cE, lC, if_true]; exact decRows_enc t x
  | own => simp only [Sh.dec, Sh.inst, cE, lC, if_true]; exact decRows_enc t x
 | .n m t, o, hp => by
  cases m with
  | bor => cases hp
  | data =>
   cases o with
   | none => rfl
   | some x => simp only [Sh.dec, Sh.inst, cE, lC, if_true]; rw [decRows_enc t x]; rfl
  | own =>
   cases o with
   | none => rfl
   | some x => simp only [Sh.dec, Sh.inst, cE, lC, if_true]; rw [decRows_enc t x]; rfl
@[reducible] def HT : List Sh → Type
 | [] => Unit
 | h :: r => match r with
  | [] => h.T
  | h' :: r => h.T × HT (h' :: r)
def HT.inst : (l : List Sh) → HT l → List E
 | [], _ => []
 | [h], x => [h.inst x]
 | h :: h' :: r, x => h.inst x.1 :: HT.inst (h' :: r) x.2
def HT.mat : (l : List Sh) → List E → Option (HT l)
 | [], cs => match cs with
  | [] => some ()
  | _ => none
 | [h], cs => match cs with
  | [c] => h.mat c
  | _ => none
 | h :: h' :: r, cs => match cs with
  | c :: cs => match h.mat c, HT.mat (h' :: r) cs with
   | some x, some y => some (x, y)
   | _, _ => none
  | [] => none
def HT.dec : (l : List Sh) → List C → Option (HT l)
 | [], cs => match cs with
  | [] => some ()
  | _ => none
 | [h], cs => match cs with
  | [c] => h.dec c
  | _ => none
 | h :: h' :: r, cs => match cs with
  | c :: cs => match h.dec c, HT.dec (h' :: r) cs with
   | some x, some y => some (x, y)
   | _, _ => none
  | [] => none
theorem HT.mat_eq : ∀ (l : List Sh) (cs : List E) (x : HT l), HT.mat l cs = some x → cEs (HT.inst l x) = cEs cs
 | [], cs, x, e => by cases cs <;> first | rfl | cases e
 | [h], cs, x, e => by
  match cs with
  | [] => cases e
  | [c] => exact congrArg (fun z => [z]) (Sh.mat_eq (h := h) e)
  | _ :: _ :: _ => cases e
 | h :: h' :: r, cs, x, e => by
  cases cs with
  | nil => cases e
  | cons c cs =>
   simp only [HT.mat] at e
   split at e
   ·rename_i y z h1 h2
    cases e
    show cE (h.inst y) :: cEs (HT.inst (h' :: r) z) = cE c :: cEs cs
    rw [Sh.mat_eq h1, HT.mat_eq (h' :: r) cs z h2]
   ·cases e
theorem HT.dec_inst : ∀ (l : List Sh) (x : HT l), l.all Sh.plain = true → HT.dec l (cEs (HT.inst l x)) = some x
 | [], x, _ => rfl
 | [h], x, hp => Sh.dec_inst (h := h) x (by simpa using hp)
 | h :: h' :: r, x, hp => by
  rw [List.all_cons, Bool.and_eq_true] at hp
  show (match h.dec (cE (h.inst x.1)), HT.dec (h' :: r) (cEs (HT.inst (h' :: r) x.2)) with
   | some x, some y => some (x, y)
   | _, _ => none) = _
  rw [Sh.dec_inst x.1 hp.1, HT.dec_inst (h' :: r) x.2 hp.2]
def HT.dflt : (l : List Sh) → HT l
 | [] => ()
 | [h] => h.dflt
 | h :: h' :: r => (h.dflt, HT.dflt (h' :: r))
def capsb : List (Key × Nat) → List (Key × Nat) → Bool
 | [], [] => true
 | p :: r, p' :: r' => keqb p.1 p'.1 && p.2 == p'.2 && capsb r r'
 | _, _ => false
theorem capsb_iff : ∀ {l l' : List (Key × Nat)}, capsb l l' = true ↔ l = l'
 | [], [] => by simp [capsb]
 | [], _ :: _ => by simp [capsb]
 | _ :: _, [] => by simp [capsb]
 | (k, o) :: r, (k', o') :: r' => by
  simp only [capsb, Bool.and_eq_true, keqb_iff, beq_iff_eq, capsb_iff, List.cons.injEq, Prod.mk.injEq]
inductive It where
 | one (h : Sh) | row (t : Ty) | cells (l : List Sh) | ptr (k : Key) (off : Nat) | clo (f : FuncId) (caps : List (Key × Nat) := []) | nul (k : NK) | nls | cptr (k : Key) (off : Nat)
@[reducible] def It.T : It → Type
 | .one h => h.T
 | .row t => t.T
 | .cells l => HT l
 | .ptr _ _ => Unit
 | .clo _ _ => Unit
 | .nul _ => Unit
 | .nls => Unit
 | .cptr _ _ => Unit
def It.has : It → Bool
 | .one _ => true
 | .row _ => true
 | .cells _ => true
 | .ptr _ _ => false
 | .clo _ _ => false
 | .nul _ => false
 | .nls => false
 | .cptr _ _ => false
def It.inst : (i : It) → i.T → SVE
 | .one h, x => .one (h.inst x)
 | .row t, x => .agg (cellsT t x)
 | .cells l, x => .agg (HT.inst l x)
 | .ptr k off, _ => .one (.ptr k off)
 | .clo f caps, _ => .one (.clo f caps)
 | .nul k, _ => .one (.nul k)
 | .nls, _ => .one .nil
 | .cptr k off, _ => .agg [.ptr k off]
def It.mat : (i : It) → SVE → Option i.T
 | .one h => fun v => match v with
  | .one c => h.mat c
  | _ => none
 | .row t => fun v => match v with
  | .agg cs => rowT t cs
  | _ => none
 | .cells l => fun v => match v with
  | .agg cs => HT.mat l cs
  | _ => none
 | .ptr k off => fun v => match v with
  | .one (.ptr k' off') => match keqb k k' && off == off' with
   | true => some ()
   | false => none
  | _ => none
 | .clo f caps => fun v => match v with
  | .one (.clo f' l) => match f == f' && capsb caps l with
   | true => some ()
   | false => none
  | _ => none
 | .nul k => fun v => match v with
  | .one (.nul k') => if k = k' then some () else none
  | _ => none
 | .nls => fun v => match v with
  | .one .nil => some ()
  | _ => none
 | .cptr k off => fun v => match v with
  | .agg [.ptr k' off'] => match keqb k k' && off == off' with
   | true => some ()
   | false => none
  | _ => none
def unDs : List C → Option (List D)
 | [] => some []
 | .d x :: r => match unDs r with
  | some l => some (x :: l)
  | none => none
 | _ => none
theorem unDs_map : ∀ (l : List D), unDs (l.map .d) = some l
 | [] => rfl
 | d :: l => by simp only [List.map_cons, unDs, unDs_map l]
def It.dec : (i : It) → SV → Option i.T
 | .one h => fun v => match v with
  | .one c => h.dec c
  | _ => none
 | .row t => fun v => match v with
  | .agg cs => match unDs cs with
   | some ds => decRow t ds
   | none => none
  | _ => none
 | .cells l => fun v => match v with
  | .agg cs => HT.dec l cs
  | _ => none
 | .ptr k off => fun v => match v with
  | .one (.ptr k' off') => if k = k' ∧ off = off' then some () else none
  | _ => none
 | .clo f caps => fun v => match v with
  | .one (.clo f' l) => if f = f' ∧ l = caps then some () else none
  | _ => none
 | .nul k => fun v => match v with
  | .one (.d (.nul k')) => if k = k' then some () else none
  | _ => none
 | .nls => fun v => match v with
  | .one (.d .nil) => some ()
  | _ => none
 | .cptr k off => fun v => match v with
  | .agg [.ptr k' off'] => if k = k' ∧ off = off' then some () else none
  | _ => none
def It.ok : It → Bool
 | .one h => h.plain && h.notP
 | .cells l => l.all Sh.plain
 | .ptr (.inb _) _ => true
 | .ptr _ _ => false
 | _ => true
def It.dflt : (i : It) → i.T
 | .one h => h.dflt
 | .row t => t.zero
 | .cells l => HT.dflt l
 | .ptr _ _ => ()
 | .clo _ _ => ()
 | .nul _ => ()
 | .nls => ()
 | .cptr _ _ => ()
theorem It.mat_eq : ∀ {i : It} {v : SVE} {x : i.T}, i.mat v = some x → cSV (i.inst x) = cSV v
 | .one h, v, x, e => by
  cases v with
  | one c => exact congrArg SV.one (Sh.mat_eq (h := h) e)
  | _ => cases e
 | .row t, v, x, e => by
  cases v with
  | agg cs =>
   have e : rowT t cs = some x := e
   show SV.agg (cEs (cellsT t x)) = SV.agg (cEs cs)
   rw [cells_enc, rowT_eq e]
  | _ => cases e
 | .cells l, v, x, e => by
  cases v with
  | agg cs => exact congrArg SV.agg (HT.mat_eq l cs x e)
  | _ => cases e
 | .ptr k off, v, x, e => by
  simp only [It.mat] at e
  split at e
  ·split at e
   ·rename_i h
    simp only [Bool.and_eq_true, beq_iff_eq, keqb_iff] at h
    obtain ⟨rfl, rfl⟩ := h
    rfl
   ·cases e
  ·cases e
 | .clo f caps, v, x, e => by
  simp only [It.mat] at e
  split at e
  ·split at e
   ·rename_i h
    simp only [Bool.and_eq_true, beq_iff_eq, capsb_iff] at h
    obtain ⟨rfl, rfl⟩ := h
    rfl
   ·cases e
  ·cases e
 | .nul k, v, x, e => by
  simp only [It.mat] at e
  split at e
  ·split at e
   ·rename_i h; subst h; rfl
   ·cases e
  ·cases e
 | .nls, v, x, e => by
  simp only [It.mat] at e
  split at e
  ·rfl
  ·cases e
 | .cptr k off, v, x, e => by
  simp only [It.mat] at e
  split at e
  ·split at e
   ·rename_i h
    simp only [Bool.and_eq_true, beq_iff_eq, keqb_iff] at h
    obtain ⟨rfl, rfl⟩ := h
    rfl
   ·cases e
  ·cases e
theorem It.dec_inst : ∀ {i : It} (x : i.T), i.ok = true → i.dec (cSV (i.inst x)) = some x
 | .one h, x, hp => Sh.dec_inst (h := h) x (by simp only [It.ok, Bool.and_eq_true] at hp; exact hp.1)
 | .row t, x, _ => by
  show (match unDs (cEs (cellsT t x)) with | some ds => decRow t ds | none => none) = _
  rw [cells_enc, unDs_map]
  exact decRow_enc t x
 | .cells l, x, hp => HT.dec_inst l x hp
 | .ptr k off, x, _ => by simp [It.dec, It.inst, cSV, cE]
 | .clo f caps, x, _ => by simp [It.dec, It.inst, cSV, cE]
 | .nul k, x, _ => by simp [It.dec, It.inst, cSV, cE]
 | .nls, x, _ => by simp [It.dec, It.inst, cSV, cE]
 | .cptr k off, x, _ => by simp [It.dec, It.inst, cSV, cEs, cE]
def hasT (l : List It) : Bool := l.any It.has
@[reducible] def T2 (b : Bool) (α β : Type) : Type := match b with
 | true => α × β
 | false => α
def T2.fst {α β : Type} : (b : Bool) → T2 b α β → α
 | true, x => x.1
 | false, x => x
def T2.snd {α β : Type} : (b : Bool) → β → T2 b α β → β
 | true, _, x => x.2
 | false, d, _ => d
def T2.mk {α β : Type} : (b : Bool) → α → β → T2 b α β
 | true, x, y => (x, y)
 | false, x, _ => x
theorem T2.fst_mk {α β : Type} (b : Bool) (x : α) (y : β) : T2.fst b (T2.mk b x y) = x := by cases b <;> rfl
theorem T2.mk_eta {α β : Type} (b : Bool) (d : β) (z : T2 b α β) : T2.mk b (T2.fst b z) (T2.snd b d z) = z := by cases b <;> rfl
@[reducible] def IT : List It → Type
 | [] => Unit
 | i :: r => match i.has with
  | true => T2 (hasT r) i.T (IT r)
  | false => IT r
def IT.hd : (i : It) → (r : List It) → IT (i :: r) → i.T
 | .one _, r => fun x => T2.fst (hasT r) x
 | .row _, r => fun x => T2.fst (hasT r) x
 | .cells _, r => fun x => T2.fst (hasT r) x
 | .ptr _ _, _ => fun _ => ()
 | .clo _ _, _ => fun _ => ()
 | .nul _, _ => fun _ => ()
 | .nls, _ => fun _ => ()
 | .cptr _ _, _ => fun _ => ()
def IT.tl (d : (r : List It) → IT r) : (i : It) → (r : List It) → IT (i :: r) → IT r
 | .one _, r => fun x => T2.snd (hasT r) (d r) x
 | .row _, r => fun x => T2.snd (hasT r) (d r) x
 | .cells _, r => fun x => T2.snd (hasT r) (d r) x
 | .ptr _ _, _ => fun x => x
 | .clo _ _, _ => fun x => x
 | .nul _, _ => fun x => x
 | .nls, _ => fun x => x
 | .cptr _ _, _ => fun x => x
def IT.cons : (i : It) → (r : List It) → i.T → IT r → IT (i :: r)
 | .one _, r => fun x y => T2.mk (hasT r) x y
 | .row _, r => fun x y => T2.mk (hasT r) x y
 | .cells _, r => fun x y => T2.mk (hasT r) x y
 | .ptr _ _, _ => fun _ y => y
 | .clo _ _, _ => fun _ y => y
 | .nul _, _ => fun _ y => y
 | .nls, _ => fun _ y => y
 | .cptr _ _, _ => fun _ y => y
def IT.dflt : (l : List It) → IT l
 | [] => ()
 | i :: r => IT.cons i r i.dflt (IT.dflt r)
def IT.inst : (l : List It) → IT l → List SVE
 | [], _ => []
 | i :: r, x => i.inst (IT.hd i r x) :: IT.inst r (IT.tl IT.dflt i r x)
def IT.mat : (l : List It) → List SVE → Option (IT l)
 | [], vs => match vs with
  | [] => some ()
  | _ => none
 | i :: r, vs => match vs with
  | v :: vs => match i.mat v, IT.mat r vs with
   | some x, some y => some (IT.cons i r x y)
   | _, _ => none
  | [] => none
def IT.dec : (l : List It) → List SV → Option (IT l)
 | [], vs => match vs with
  | [] => some ()
  | _ => none
 | i :: r, vs => match vs with
  | v :: vs => match i.dec v, IT.dec r vs with
   | some x, some y => some (IT.cons i r x y)
   | _, _ => none
  | [] => none
theorem IT.unit : ∀ (l : List It), hasT l = false → ∀ x y : IT l, x = y
 | [], _, _, _ => rfl
 | i :: r, h, x, y => by
  have h2 : i.has = false ∧ hasT r = false := by
   simp only [hasT, List.any_cons, Bool.or_eq_false_iff] at h
   exact h
  cases i with
  | one _ => cases h2.1
  | row _ => cases h2.1
  | cells _ => cases h2.1
  | ptr _ _ => exact IT.unit r h2.2 x y
  | clo _ _ => exact IT.unit r h2.2 x y
  | nul _ => exact IT.unit r h2.2 x y
  | nls => exact IT.unit r h2.2 x y
  | cptr _ _ => exact IT.unit r h2.2 x y
theorem T2.snd_mk (r : List It) {α : Type} (x : α) (y d : IT r) : T2.snd (hasT r) d (T2.mk (hasT r) x y) = y := by
 have : ∀ b, hasT r = b → T2.snd b d (T2.mk b x y) = y := by
  intro b hb
  cases b with
  | true => rfl
  | false => exact IT.unit r hb d y
 exact this _ rfl
theorem IT.hd_cons (i : It) (r : List It) (x : i.T) (y : IT r) : IT.hd i r (IT.cons i r x y) = x := by
 cases i <;> first | exact T2.fst_mk (hasT r) x y | rfl
theorem IT.tl_cons (i : It) (r : List It) (x : i.T) (y : IT r) : IT.tl IT.dflt i r (IT.cons i r x y) = y := by
 cases i <;> first | exact T2.snd_mk r x y _ | rfl
theorem IT.cons_eta (i : It) (r : List It) (z : IT (i :: r)) : IT.cons i r (IT.hd i r z) (IT.tl IT.dflt i r z) = z := by
 cases i <;> first | exact T2.mk_eta (hasT r) _ z | rfl
theorem IT.mat_eq : ∀ (l : List It) (vs : List SVE) (x : IT l), IT.mat l vs = some x → (IT.inst l x).map cSV = vs.map cSV
 | [], vs, x, e => by cases vs <;> first | rfl | cases e
 | i :: r, vs, x, e => by
  cases vs with
  | nil => cases e
  | cons v vs =>
   simp only [IT.mat] at e
   split at e
   ·rename_i y z h1 h2
    cases e
    simp only [IT.inst, List.map_cons]
    rw [IT.hd_cons, IT.tl_cons, It.mat_eq h1, IT.mat_eq r vs z h2]
   ·cases e
theorem IT.dec_inst : ∀ (l : List It) (x : IT l), l.all It.ok = true → IT.dec l ((IT.inst l x).map cSV) = some x
 | [], x, _ => rfl
 | i :: r, x, hp => by
  rw [List.all_cons, Bool.and_eq_true] at hp
  simp only [IT.inst, List.map_cons, IT.dec]
  rw [It.dec_inst _ hp.1, IT.dec_inst r _ hp.2]
  simp only
  rw [IT.cons_eta]
end Go.Ve
namespace Go.Ve
open Go.Vs
theorem mapO_some {α β : Type} {f : α → Option β} {g : β → α} (h : ∀ a b, f a = some b → a = g b) : ∀ (l : List α) (r : List β), mapO f l = some r → l = r.map g
 | [], r, e => by cases e; rfl
 | a :: l, r, e => by
  simp only [mapO] at e
  split at e
  ·rename_i b r' h1 h2
   cases e
   rw [h a b h1, mapO_some h l r' h2]
   rfl
  ·cases e
theorem decT_some : ∀ (t : Ty) (ds : List D) (x : t.T) (r : List D), decT t ds = some (x, r) → ds = encR t x ++ r
 | .int k, ds, x, r, e => by
  simp only [decT] at e
  split at e
  ·split at e
   ·rename_i h; subst h; cases e; rfl
   ·cases e
  ·cases e
 | .bool, ds, x, r, e => by
  simp only [decT] at e
  split at e <;> cases e
  rfl
 | .str, ds, x, r, e => by
  simp only [decT] at e
  split at e <;> cases e
  rfl
 | .sl t, ds, x, r, e => by
  simp only [decT] at e
  split at e
  ·cases e; rfl
  ·split at e
   ·rename_i h
    subst h
    split at e
    ·rename_i l hl
     cases e
     have := mapO_some (g := encR t) (fun a b hab => by
      split at hab
      ·rename_i y hy
       cases hab
       have := decT_some t a _ [] hy
       simpa using this
      ·cases hab) _ _ hl
     rw [this]
     rfl
    ·cases e
   ·cases e
  ·cases e
 | .pair h t, ds, x, r, e => by
  simp only [decT] at e
  split at e
  ·rename_i y r1 h1
   split at e
   ·rename_i z r2 h2
    cases e
    rw [decT_some h ds y r1 h1, decT_some t r1 z r h2]
    simp [encR]
   ·cases e
  ·cases e
 | .set k, ds, x, r, e => decT_some k ds x r e
 | .ent _ h t, ds, x, r, e => by
  simp only [decT] at e
  split at e
  ·rename_i y r1 h1
   split at e
   ·rename_i z r2 h2
    cases e
    rw [decT_some h ds y r1 h1, decT_some t r1 z r h2]
    simp [encR]
   ·cases e
  ·cases e
theorem decRow_some {t : Ty} {ds : List D} {x : t.T} (h : decRow t ds = some x) : ds = encR t x := by
 unfold decRow at h
 split at h
 ·rename_i y hy
  cases h
  have := decT_some t ds _ [] hy
  simpa using this
 ·cases h
theorem decRows_some {t : Ty} {ds : List (List D)} {xs : List t.T} (h : decRows t ds = some xs) : ds = xs.map (encR t) := mapO_some (fun _ _ => decRow_some) ds xs h
theorem Sh.dec_some : ∀ {h : Sh} {c : C} {x : h.T}, h.dec c = some x → c = cE (h.inst x)
 | .p k off, c, x, e => by
  simp only [Sh.dec] at e
  split at e
  ·split at e
   ·rename_i h; obtain ⟨rfl, rfl⟩ := h; rfl
   ·cases e
  ·cases e
 | .i k, c, x, e => by
  simp only [Sh.dec] at e
  split at e
  ·split at e
   ·rename_i h; subst h; cases e; rfl
   ·cases e
  ·cases e
 | .b, c, x, e => by
  simp only [Sh.dec] at e
  split at e <;> cases e
  rfl
 | .s, c, x, e => by
  simp only [Sh.dec] at e
  split at e <;> cases e
  rfl
 | .l m t, c, x, e => by
  simp only [Sh.dec] at e
  split at e
  ·split at e
   ·rename_i h; subst h; rw [decRows_some e]; rfl
   ·cases e
  ·split at e
   ·rename_i h; subst h; rw [decRows_some e]; rfl
   ·cases e
  ·cases e
 | .n m t, c, x, e => by
  simp only [Sh.dec] at e
  split at e
  ·cases e; rfl
  ·cases e; rfl
  ·split at e
   ·rename_i h; subst h
    obtain ⟨y, h1, rfl⟩ := Option.map_eq_some_iff.1 e
    rw [decRows_some h1]; rfl
   ·cases e
  ·split at e
   ·rename_i h; subst h
    obtain ⟨y, h1, rfl⟩ := Option.map_eq_some_iff.1 e
    rw [decRows_some h1]; rfl
   ·cases e
  ·cases e
theorem HT.dec_some : ∀ (l : List Sh) (cs : List C) (x : HT l), HT.dec l cs = some x → cs = cEs (HT.inst l x)
 | [], cs, x, e => by cases cs <;> first | rfl | cases e
 | [h], cs, x, e => by
  match cs with
  | [] => cases e
  | [c] => exact congrArg (fun z => [z]) (Sh.dec_some (h := h) e)
  | _ :: _ :: _ => cases e
 | h :: h' :: r, cs, x, e => by
  cases cs with
  | nil => cases e
  | cons c cs =>
   simp only [HT.dec] at e
   split at e
   ·rename_i y z h1 h2
    cases e
    show c :: cs = cE (h.inst y) :: cEs (HT.inst (h' :: r) z)
    rw [← Sh.dec_some h1, ← HT.dec_some (h' :: r) cs z h2]
   ·cases e
theorem unDs_some : ∀ {cs : List C} {l : List D}, unDs cs = some l → cs = l.map .d
 | [], l, e => by cases e; rfl
 | c :: cs, l, e => by
  cases c with
  | d x =>
   simp only [unDs] at e
   split at e
   ·rename_i l' h; cases e; rw [unDs_some h]; rfl
   ·cases e
  | _ => cases e
theorem It.dec_some : ∀ {i : It} {v : SV} {x : i.T}, i.dec v = some x → v = cSV (i.inst x)
 | .one h, v, x, e => by
  cases v with
  | one c => exact congrArg SV.one (Sh.dec_some (h := h) e)
  | _ => cases e
 | .row t, v, x, e => by
  cases v with
  | agg cs =>
   simp only [It.dec] at e
   split at e
   ·rename_i ds hd
    show SV.agg cs = SV.agg (cEs (cellsT t x))
    rw [cells_enc, ← decRow_some e, unDs_some hd]
   ·cases e
  | _ => cases e
 | .cells l, v, x, e => by
  cases v with
  | agg cs => exact congrArg SV.agg (HT.dec_some l cs x e)
  | _ => cases e
 | .ptr k off, v, x, e => by
  simp only [It.dec] at e
  split at e
  ·split at e
   ·rename_i h; obtain ⟨rfl, rfl⟩ := h; rfl
   ·cases e
  ·cases e
 | .clo f caps, v, x, e => by
  simp only [It.dec] at e
  split at e
  ·split at e
   ·rename_i h; obtain ⟨rfl, rfl⟩ := h; rfl
   ·cases e
  ·cases e
 | .nul k, v, x, e => by
  simp only [It.dec] at e
  split at e
  ·split at e
   ·rename_i h; subst h; rfl
   ·cases e
  ·cases e
 | .nls, v, x, e => by
  simp only [It.dec] at e
  split at e
  ·rfl
  ·cases e
 | .cptr k off, v, x, e => by
  simp only [It.dec] at e
  split at e
  ·split at e
   ·rename_i h; obtain ⟨rfl, rfl⟩ := h; rfl
   ·cases e
  ·cases e
theorem IT.dec_some : ∀ (l : List It) (vs : List SV) (x : IT l), IT.dec l vs = some x → vs = (IT.inst l x).map cSV
 | [], vs, x, e => by cases vs <;> first | rfl | cases e
 | i :: r, vs, x, e => by
  cases vs with
  | nil => cases e
  | cons v vs =>
   simp only [IT.dec] at e
   split at e
   ·rename_i y z h1 h2
    cases e
    simp only [IT.inst, List.map_cons]
    rw [IT.hd_cons, IT.tl_cons, ← It.dec_some h1, ← IT.dec_some r vs z h2]
   ·cases e
def startSlotsE : Nat → List SVE → List (Nat × SVE)
 | _, [] => []
 | i, v :: vs => (i, RVE.copy { v } (.arg i)) :: startSlotsE (i + 1) vs
def startBoxesE : Nat → List (List E) → List (Key × List E)
 | _, [] => []
 | i, b :: bs => (.inb i, b) :: startBoxesE (i + 1) bs
def startE (A : List SVE) (B : List (List E)) : PSE := { slots := startSlotsE 0 A, boxes := startBoxesE 0 B, frz := [], dirty := [] }
theorem startSlotsE_eq : ∀ (A : List SVE) (i : Nat), (startSlotsE i A).map (fun x => (x.1, cSV x.2)) = startSlots i (A.map cSV)
 | [], i => rfl
 | v :: A, i => by
  simp only [startSlotsE, List.map_cons, startSlots, startSV]
  rw [startSlotsE_eq A (i + 1)]
  congr 2
  exact copy_eq { v } (.arg i)
theorem startBoxesE_eq : ∀ (B : List (List E)) (i : Nat), (startBoxesE i B).map (fun x => (x.1, cEs x.2)) = startBoxes i (B.map cEs)
 | [], i => rfl
 | b :: B, i => by simp only [startBoxesE, List.map_cons, startBoxes]; rw [startBoxesE_eq B (i + 1)]
theorem cPS_start (A : List SVE) (B : List (List E)) : cPS A (startE A B) = startPS (A.map cSV) (B.map cEs) := by
 simp only [cPS, startE, startPS, startSlotsE_eq, startBoxesE_eq, frzArgsE]
def readRE (cfg : Cfg) : ResultVar → PE SVE
 | .tmp t => evE (.tmp t)
 | .cell a t => match cfg.ti t with
  | some i => do loadE i (← ev1E (.tmp a))
  | none => .fail
def readRsE (cfg : Cfg) : List ResultVar → PE (List SVE)
 | [] => .ret []
 | r :: rs => do let v ← readRE cfg r; let vs ← readRsE cfg rs; .ret (v :: vs)
def arg1E : E → PE E
 | .l (.bor (.arg i) j hv cv k) t xs => toDE (.l (.bor (.arg i) j hv cv k) t xs)
 | .n (.bor (.arg i) j hv cv k) t o => toDE (.n (.bor (.arg i) j hv cv k) t o)
 | c => .ret c
def argE (c : E) : PE E := arg1E c
def argsE : List E → PE (List E)
 | [] => .ret []
 | c :: cs => do let c' ← argE c; let r ← argsE cs; .ret (c' :: r)
def argSVE : SVE → PE SVE
 | .one c => do .ret (.one (← argE c))
 | .agg cs => do .ret (.agg (← argsE cs))
 | _ => .fail
def argSVsE : List SVE → PE (List SVE)
 | [] => .ret []
 | v :: vs => do let v' ← argSVE v; let r ← argSVsE vs; .ret (v' :: r)
def easyE : E → Bool
 | .ptr _ _ => true
 | c => plainE c
theorem easy_eq {cs : List E} (h : cs.all easyE = true) : (cEs cs).all easy = true := by
 simp only [cEs, List.all_map, List.all_eq_true, Function.comp_apply] at h ⊢
 intro c hc
 have := h c hc
 cases c with
 | ptr k off => rfl
 | l m t xs => cases m <;> first | rfl | cases this
 | n m t o => cases m <;> cases o <;> first | rfl | cases this
 | _ => first | rfl | cases this
def settleE (k : Key) : PE Unit :=
 .get (.box k) fun x => match x.v with
  | .agg cs => match cs.all easyE with
   | true => .ret ()
   | false => .fail
  | _ => .fail
def settlesE : List Key → PE Unit
 | [] => .ret ()
 | k :: ks => do settleE k; settlesE ks
def tupOf (v : SVE) : Bool × List E := match v with | .one c => (false, [c]) | .agg cs => (true, cs) | _ => (false, [])
def outVE : List SVE → SVE
 | [v] => v
 | vs => .tup (vs.map tupOf)
def outCE (ks : List Key) : E → PE E
 | .ptr k off => do sure (ks.any (keqb k)); .ret (.ptr (.inb (idx k ks)) off)
 | .clo f caps => do sure caps.isEmpty; .ret (.clo f [])
 | c => match plainE c with
  | true => .ret c
  | false => .fail
def outCsE (ks : List Key) : List E → PE (List E)
 | [] => .ret []
 | c :: cs => do let c' ← outCE ks c; let r ← outCsE ks cs; .ret (c' :: r)
def outTupE (ks : List Key) : List (Bool × List E) → PE (List (Bool × List E))
 | [] => .ret []
 | (b, cs) :: vs => do let cs' ← outCsE ks cs; let r ← outTupE ks vs; .ret ((b, cs') :: r)
def outSVE (ks : List Key) : SVE → PE SVE
 | .one c => do .ret (.one (← outCE ks c))
 | .agg cs => do .ret (.agg (← outCsE ks cs))
 | .tup vs => do .ret (.tup (← outTupE ks vs))
 | .undef => .fail
def outKeysE (nb : Nat) (cs : List E) : List Key := inbs nb ++ (dedup (keysOfE cs)).filter fun k => !k.isIn
def exitE (cfg : Cfg) (res : List ResultVar) (nb : Nat) : PE (SVE × List (List E)) := do
 let vs ← readRsE cfg res
 let ks := outKeysE nb (vs.flatMap SVE.cells)
 settlesE ks
 let vs1 ← argSVsE vs
 let v2 ← stashSVE (.tmp 0) (outTake cfg.outd) (outVE vs1)
 let bs ← getBoxesE ks ks
 let v3 ← outSVE ks v2
 .ret (v3, bs)
theorem readRE_sim (cfg : Cfg) (r : ResultVar) (s : ESt) : Sim s (readRE cfg r) cSV (readR cfg r) := by
 cases r with
 | tmp t => exact evE_sim (.tmp t) s
 | cell a t =>
  simp only [readRE, readR]
  cases cfg.ti t with
  | none => exact Sim.fail
  | some i =>
   simp only [bindE_eq, bind_eq]
   exact Sim.bind (ev1E_sim _ s) fun c s1 => loadE_sim i c s1
theorem readRsE_sim (cfg : Cfg) : ∀ (rs : List ResultVar) (s : ESt), Sim s (readRsE cfg rs) (List.map cSV) (readRs cfg rs)
 | [], s => Sim.ret rfl
 | r :: rs, s => by
  simp only [readRsE, readRs, bindE_eq, bind_eq]
  exact Sim.bind (readRE_sim cfg r s) fun v s1 => Sim.bind (readRsE_sim cfg rs s1) fun vs s2 => Sim.ret rfl
theorem argE_sim (c : E) (s : ESt) : Sim s (argE c) cE (argC (cE c)) := by
 unfold argE
 cases c with
 | l m t xs =>
  cases m with
  | bor r j hv cv k =>
   cases r with
   | arg i =>
    simp only [arg1E, argC, cE, lC, bind_eq]
    exact data_sim (toDE_sim (.l (.bor (.arg i) j hv cv k) t xs) s) (toDE_data _ s)
   | _ => exact Sim.ret rfl
  | _ => exact Sim.ret rfl
 | n m t o =>
  cases m with
  | bor r j hv cv k =>
   cases r with
   | arg i =>
    have h := data_sim (toDE_sim (.n (.bor (.arg i) j hv cv k) t o) s) (toDE_data _ s)
    cases o with
    | none => exact h
    | some xs => simp only [arg1E, argC, cE, lC, bind_eq]; exact h
   | _ => cases o <;> exact Sim.ret rfl
  | _ => cases o <;> exact Sim.ret rfl
 | gone b => cases b <;> exact Sim.ret rfl
 | _ => exact Sim.ret rfl
theorem argsE_sim : ∀ (cs : List E) (s : ESt), Sim s (argsE cs) cEs (argCs (cEs cs))
 | [], s => Sim.ret rfl
 | c :: cs, s => by
  show Sim s (argsE (c :: cs)) cEs (argCs (cE c :: cEs cs))
  simp only [argsE, argCs, bindE_eq, bind_eq]
  exact Sim.bind (argE_sim c s) fun c' s1 => Sim.bind (argsE_sim cs s1) fun cs' s2 => Sim.ret rfl
theorem argSVE_sim (v : SVE) (s : ESt) : Sim s (argSVE v) cSV (argSV (cSV v)) := by
 cases v with
 | one c =>
  show Sim s (argSVE (.one c)) cSV (argSV (.one (cE c)))
  simp only [argSVE, argSV, bindE_eq, bind_eq]
  exact Sim.bind (argE_sim c s) fun c' s1 => Sim.ret rfl
 | agg cs =>
  show Sim s (argSVE (.agg cs)) cSV (argSV (.agg (cEs cs)))
  simp only [argSVE, argSV, bindE_eq, bind_eq]
  exact Sim.bind (argsE_sim cs s) fun c' s1 => Sim.ret rfl
 | _ => exact Sim.fail
theorem argSVsE_sim : ∀ (vs : List SVE) (s : ESt), Sim s (argSVsE vs) (List.map cSV) (argSVs (vs.map cSV))
 | [], s => Sim.ret rfl
 | v :: vs, s => by
  simp only [List.map_cons, argSVsE, argSVs, bindE_eq, bind_eq]
  exact Sim.bind (argSVE_sim v s) fun c' s1 => Sim.bind (argSVsE_sim vs s1) fun cs' s2 => Sim.ret rfl
theorem settleE_sim (k : Key) (s : ESt) : Sim s (settleE k) (fun _ => ()) (Vs.settle k) := by
 unfold settleE Vs.settle
 refine Sim.get ?_
 cases hv : (s.get (.box k)).v with
 | agg cs =>
  simp only [cRV, hv, cSV]
  cases hp : cs.all easyE with
  | false => exact Sim.fail
  | true => rw [if_pos (easy_eq hp)]; exact Sim.ret rfl
 | _ => simp only [cRV, hv, cSV]; exact Sim.fail
theorem settlesE_sim : ∀ (ks : List Key) (s : ESt), Sim s (settlesE ks) (fun _ => ()) (settles ks)
 | [], s => Sim.ret rfl
 | k :: ks, s => by
  simp only [settlesE, settles, bindE_eq, bind_eq]
  exact Sim.bind (settleE_sim k s) fun _ s1 => settlesE_sim ks s1
theorem outVE_eq (vs : List SVE) : cSV (outVE vs) = outV (vs.map cSV) := by
 match vs with
 | [] => rfl
 | [v] => rfl
 | v :: u :: r =>
  show SV.tup (cTup ((v :: u :: r).map tupOf)) = SV.tup (((v :: u :: r).map cSV).map fun v => match v with | .one c => (false, [c]) | .agg cs => (true, cs) | _ => (false, []))
  congr 1
  generalize v :: u :: r = l
  induction l with
  | nil => rfl
  | cons x l ih =>
   show ((tupOf x).1, cEs (tupOf x).2) :: cTup (l.map tupOf) = _
   rw [ih]
   cases x <;> rfl
theorem outCE_sim (ks : List Key) (c : E) (s : ESt) : Sim s (outCE ks c) cE (outC ks (cE c)) := by
 cases c with
 | l m t xs => cases m <;> first | exact Sim.ret rfl | exact Sim.fail
 | n m t o => cases m <;> cases o <;> first | exact Sim.ret rfl | exact Sim.fail
 | ptr k off =>
  simp only [outCE, outC, cE, bindE_eq, bind_eq]
  refine Sim.sure fun h => ?_
  rw [any_keqb] at h
  rw [need_bind (by simpa using h)]
  exact Sim.ret rfl
 | clo f caps =>
  simp only [outCE, outC, cE, bindE_eq, bind_eq]
  refine Sim.sure fun h => ?_
  rw [need_bind (by simpa using h)]
  exact Sim.ret rfl
 | ea => exact Sim.fail
 | da => exact Sim.fail
 | dead => exact Sim.fail
 | gone b => exact Sim.fail
 | _ => exact Sim.ret rfl
theorem outCsE_sim (ks : List Key) : ∀ (cs : List E) (s : ESt), Sim s (outCsE ks cs) cEs (outCs ks (cEs cs))
 | [], s => Sim.ret rfl
 | c :: cs, s => by
  show Sim s (outCsE ks (c :: cs)) cEs (outCs ks (cE c :: cEs cs))
  simp only [outCsE, outCs, bindE_eq, bind_eq]
  exact Sim.bind (outCE_sim ks c s) fun c' s1 => Sim.bind (outCsE_sim ks cs s1) fun cs' s2 => Sim.ret rfl
theorem outTupE_sim (ks : List Key) : ∀ (vs : List (Bool × List E)) (s : ESt), Sim s (outTupE ks vs) cTup (outTup ks (cTup vs))
 | [], s => Sim.ret rfl
 | (b, cs) :: vs, s => by
  show Sim s (outTupE ks ((b, cs) :: vs)) cTup (outTup ks ((b, cEs cs) :: cTup vs))
  simp only [outTupE, outTup, bindE_eq, bind_eq]
  exact Sim.bind (outCsE_sim ks cs s) fun c' s1 => Sim.bind (outTupE_sim ks vs s1) fun cs' s2 => Sim.ret rfl
theorem outSVE_sim (ks : List Key) (v : SVE) (s : ESt) : Sim s (outSVE ks v) cSV (outSV ks (cSV v)) := by
 cases v with
 | one c =>
  show Sim s (outSVE ks (.one c)) cSV (outSV ks (.one (cE c)))
  simp only [outSVE, outSV, bindE_eq, bind_eq]
  exact Sim.bind (outCE_sim ks c s) fun c' s1 => Sim.ret rfl
 | agg cs =>
  show Sim s (outSVE ks (.agg cs)) cSV (outSV ks (.agg (cEs cs)))
  simp only [outSVE, outSV, bindE_eq, bind_eq]
  exact Sim.bind (outCsE_sim ks cs s) fun c' s1 => Sim.ret rfl
 | tup vs =>
  show Sim s (outSVE ks (.tup vs)) cSV (outSV ks (.tup (cTup vs)))
  simp only [outSVE, outSV, bindE_eq, bind_eq]
  exact Sim.bind (outTupE_sim ks vs s) fun c' s1 => Sim.ret rfl
 | undef => exact Sim.fail
theorem exitE_sim (cfg : Cfg) (res : List ResultVar) (nb : Nat) (s : ESt) : Sim s (exitE cfg res nb) (fun x => (cSV x.1, x.2.map cEs)) (exitP cfg res nb) := by
 simp only [exitE, exitP, bindE_eq, bind_eq]
 refine Sim.bind (readRsE_sim cfg res s) fun vs s1 => ?_
 have hk : outKeys nb ((vs.map cSV).flatMap SV.cells) = outKeysE nb (vs.flatMap SVE.cells) := by unfold outKeys outKeysE; rw [flat_eq, keysOf_eq]
 rw [hk]
 refine Sim.bind (settlesE_sim _ s1) fun _ s2 => Sim.bind (argSVsE_sim vs s2) fun vs1 s3 => ?_
 rw [← outVE_eq]
 exact Sim.bind (stashSVE_sim _ _ _ s3) fun v2 s4 => Sim.bind (getBoxesE_sim _ _ s4) fun bs s5 => Sim.bind (outSVE_sim _ v2 s5) fun v3 s6 => Sim.ret rfl
theorem each_true {α : Type} (t : Tr α) : t.each fun _ => True := by
 induction t with
 | leaf a => trivial
 | fail => trivial
 | br c t e iht ihe => exact ⟨iht, ihe⟩
 | call d o k ih => exact ih
 | sum o k k' ih ih' => exact ⟨ih, ih'⟩
theorem outE_same (ks : List Key) (v : SVE) (s : ESt) : ((outSVE ks v).both s).each fun x => x.2.1 = s := by
 have one : ∀ (c : E) (s : ESt), ((outCE ks c).both s).each fun x => x.2.1 = s := by
  intro c s
  cases c with
  | ptr k off =>
   show (((sure _).bind fun _ => PE.ret _).both s).each _
   cases ks.any (keqb k) <;> first | exact trivial | exact rfl
  | clo f caps =>
   show (((sure _).bind fun _ => PE.ret _).both s).each _
   cases caps.isEmpty <;> first | exact trivial | exact rfl
  | l m t xs => cases m <;> first | exact rfl | exact trivial
  | n m t o => cases m <;> first | exact rfl | exact trivial
  | _ => first | exact rfl | exact trivial
 have many : ∀ (cs : List E) (s : ESt), ((outCsE ks cs).both s).each fun x => x.2.1 = s := by
  intro cs
  induction cs with
  | nil => intro s; exact rfl
  | cons c cs ih =>
   intro s
   simp only [outCsE, bindE_eq]
   rw [bothE_bind, Tr.each_bind]
   refine Tr.each_mono ?_ (one c s)
   rintro ⟨a, s', f, g⟩ h
   rw [Tr.each_map, bothE_bind, Tr.each_bind]
   refine Tr.each_mono ?_ (ih s')
   rintro ⟨b, s'', f', g'⟩ h'
   exact h'.trans h
 have tup : ∀ (vs : List (Bool × List E)) (s : ESt), ((outTupE ks vs).both s).each fun x => x.2.1 = s := by
  intro vs
  induction vs with
  | nil => intro s; exact rfl
  | cons p vs ih =>
   intro s
   obtain ⟨b, cs⟩ := p
   simp only [outTupE, bindE_eq]
   rw [bothE_bind, Tr.each_bind]
   refine Tr.each_mono ?_ (many cs s)
   rintro ⟨a, s', f, g⟩ h
   rw [Tr.each_map, bothE_bind, Tr.each_bind]
   refine Tr.each_mono ?_ (ih s')
   rintro ⟨b, s'', f', g'⟩ h'
   exact h'.trans h
 cases v with
 | one c =>
  simp only [outSVE, bindE_eq]
  rw [bothE_bind, Tr.each_bind]
  exact Tr.each_mono (fun x hx => hx) (one c s)
 | agg cs =>
  simp only [outSVE, bindE_eq]
  rw [bothE_bind, Tr.each_bind]
  exact Tr.each_mono (fun x hx => hx) (many cs s)
 | tup vs =>
  simp only [outSVE, bindE_eq]
  rw [bothE_bind, Tr.each_bind]
  exact Tr.each_mono (fun x hx => hx) (tup vs s)
 | undef => exact trivial
theorem getBoxesE_each (kk : List Key) : ∀ (ks : List Key) (s : ESt), ((getBoxesE kk ks).both s).each fun x => x.2.1 = s ∧ Holds kk s ks x.1
 | [], s => ⟨rfl, trivial⟩
 | k :: ks, s => by
  simp only [getBoxesE, PE.both, Tr.each_map, bindE_eq]
  cases hv : (s.get (.box k)).v with
  | agg cs =>
   cases hp : cs.all (tokE kk) with
   | false => simp only [hp]; exact trivial
   | true =>
    simp only [hp]
    show (((getBoxesE kk ks).bind fun r => PE.ret (cs.map (tcE kk) :: r)).both s).each _
    rw [bothE_bind, Tr.each_bind]
    refine Tr.each_mono ?_ (getBoxesE_each kk ks s)
    rintro ⟨a, s', f, g⟩ ⟨h1, h2⟩
    simp only at h1 h2
    subst h1
    exact ⟨rfl, ⟨cs, hv, hp, rfl⟩, h2⟩
  | _ => exact trivial
theorem exitE_holds (cfg : Cfg) (res : List ResultVar) (nb : Nat) (s : ESt) : ((exitE cfg res nb).both s).each fun x => ∃ ks, Holds (inbs nb ++ ks) x.2.1 (inbs nb ++ ks) x.1.2 := by
 simp only [exitE, bindE_eq]
 rw [bothE_bind, Tr.each_bind]
 refine Tr.each_mono ?_ (each_true _)
 rintro ⟨vs, s1, f1, g1⟩ _
 rw [Tr.each_map, bothE_bind, Tr.each_bind]
 refine Tr.each_mono ?_ (each_true _)
 rintro ⟨_, s2, f2, g2⟩ _
 rw [Tr.each_map, bothE_bind, Tr.each_bind]
 refine Tr.each_mono ?_ (each_true _)
 rintro ⟨vs1, s3, f3, g3⟩ _
 rw [Tr.each_map, bothE_bind, Tr.each_bind]
 refine Tr.each_mono ?_ (each_true _)
 rintro ⟨v2, s4, f4, g4⟩ _
 rw [Tr.each_map, bothE_bind, Tr.each_bind]
 refine Tr.each_mono ?_ (getBoxesE_each _ _ s4)
 rintro ⟨bs, s5, f5, g5⟩ ⟨h1, h2⟩
 simp only at h1
 subst h1
 rw [Tr.each_map, bothE_bind, Tr.each_bind]
 refine Tr.each_mono ?_ (outE_same _ v2 s5)
 rintro ⟨v3, s6, f6, g6⟩ h3
 simp only at h3
 subst h3
 exact ⟨_, h2⟩
end Go.Ve
namespace Go.Ve
open Go.Vs
structure Sig where
 args : List It
 boxes : List It := []
 res : List It
 rbox : List (List (Option Sh)) := []
 frz : List (Nat × Nat) := []
 opt : Bool := false
def boxCells (v : SVE) : List E := match v with | .agg cs => cs | _ => []
abbrev Sig.X (S : Sig) : Type := IT (S.args ++ S.boxes)
def Sig.instA (S : Sig) (x : S.X) : List SVE := (IT.inst (S.args ++ S.boxes) x).take S.args.length
def Sig.instB (S : Sig) (x : S.X) : List (List E) := ((IT.inst (S.args ++ S.boxes) x).drop S.args.length).map boxCells
def someSh : List (Option Sh) → List It
 | [] => []
 | none :: r => someSh r
 | some h :: r => .one h :: someSh r
def flagIt : Bool → List It
 | true => [.one .b]
 | false => []
def Sig.rcells (S : Sig) : List It := flagIt S.opt ++ S.rbox.flatMap someSh
abbrev Sig.Y (S : Sig) : Type := IT (S.res ++ S.rcells)
def takeCell (v : SVE) : E := match v with | .one c => c | _ => .dead
def fill1 : List (Option Sh) → List E → List (Option E) × List E
 | [], cs => ([], cs)
 | none :: r, cs => let f := fill1 r cs; (none :: f.1, f.2)
 | some _ :: r, cs => match cs with
  | c :: cs => let f := fill1 r cs; (some c :: f.1, f.2)
  | [] => ([], [])
def fillB : List (List (Option Sh)) → List E → List (List (Option E))
 | [], _ => []
 | o :: os, cs => let f := fill1 o cs; f.1 :: fillB os f.2
def nulV (n : Nat) : SVE → SVE
 | .one (.ptr (.inb i) off) => match Nat.ble n i with
  | true => .one (.nul .ptr)
  | false => .one (.ptr (.inb i) off)
 | v => v
def flagOf : List E → Bool
 | .b b :: _ => b
 | .ff :: _ => false
 | _ => true
def Sig.flag (S : Sig) (y : S.Y) : Bool := match S.opt with
 | true => flagOf (((IT.inst (S.res ++ S.rcells) y).drop S.res.length).map takeCell)
 | false => true
def Sig.out (S : Sig) (y : S.Y) (b : Bool) : SVE × List (List (Option E)) :=
 let l := IT.inst (S.res ++ S.rcells) y
 match S.opt with
 | false => (outVE (l.take S.res.length), fillB S.rbox ((l.drop S.res.length).map takeCell))
 | true => match b with
  | true => (outVE (l.take S.res.length), fillB S.rbox (((l.drop S.res.length).map takeCell).drop 1))
  | false => (outVE ((l.take S.res.length).map (nulV S.boxes.length)), fillB (S.rbox.take S.boxes.length) (((l.drop S.res.length).map takeCell).drop 1))
def Sig.mat (S : Sig) (args : List SVE) (boxes : List (List E)) : Option S.X :=
 match args.length == S.args.length with
 | true => IT.mat (S.args ++ S.boxes) (args ++ boxes.map .agg)
 | false => none
def Sig.dec (S : Sig) (args : List SV) (boxes : List (List C)) : Option S.X :=
 if args.length = S.args.length then IT.dec (S.args ++ S.boxes) (args ++ boxes.map .agg) else none
def Sig.F (S : Sig) (sh : S.X → Option S.Y) : AFun := fun args boxes =>
 match S.dec args boxes with
 | some x => match sh x with
  | some y => some { v := cSV (S.out y (S.flag y)).1, boxes := (newBoxes (S.instB x) (S.out y (S.flag y)).2).map cEs, frz := S.frz }
  | none => none
 | none => none
def isBoxIt : It → Bool
 | .row _ => true
 | .cells _ => true
 | .cptr _ _ => true
 | _ => false
def ptrIn (n : Nat) : It → Bool
 | .cptr (.inb i) _ => Nat.ble (i + 1) n
 | .cptr _ _ => false
 | .cells l => l.all fun h => match h with
  | .p (.inb i) _ => Nat.ble (i + 1) n
  | .p _ _ => false
  | _ => true
 | _ => true
def Sig.ok (S : Sig) : Bool := S.args.all It.ok && S.boxes.all It.ok && (S.boxes.all isBoxIt && S.boxes.all (ptrIn S.boxes.length))
theorem IT.inst_get : ∀ (l : List It) (x : IT l) (m : Nat) (v : SVE), (IT.inst l x)[m]? = some v → ∃ i y, l[m]? = some i ∧ v = It.inst i y
 | [], _, m, v, h => by simp [IT.inst] at h
 | i :: r, x, 0, v, h => by
  simp only [IT.inst, List.getElem?_cons_zero, Option.some.injEq] at h
  exact ⟨i, _, rfl, h.symm⟩
 | i :: r, x, m + 1, v, h => by
  simp only [IT.inst, List.getElem?_cons_succ] at h
  obtain ⟨i', y, h1, h2⟩ := IT.inst_get r _ m v h
  exact ⟨i', y, by simpa using h1, h2⟩
theorem Sh.inst_ptr {h : Sh} {x : h.T} {k : Key} {off : Nat} (e : h.inst x = .ptr k off) : h = .p k off := by
 cases h <;> simp [Sh.inst] at e
 rw [e.1, e.2]
theorem HT.ptr_mem : ∀ (l : List Sh) (x : HT l) (c : E), c ∈ HT.inst l x → ∀ k off, c = .ptr k off → Sh.p k off ∈ l
 | [], _, c, h => by simp [HT.inst] at h
 | [sh], x, c, h => by
  intro k off hc
  simp only [HT.inst, List.mem_singleton] at h
  subst h
  rw [Sh.inst_ptr hc]
  exact List.mem_cons_self ..
 | sh :: sh' :: r, x, c, h => by
  intro k off hc
  simp only [HT.inst, List.mem_cons] at h
  rcases h with rfl | h
  ·rw [Sh.inst_ptr hc]
   exact List.mem_cons_self ..
  ·exact List.mem_cons_of_mem _ (HT.ptr_mem (sh' :: r) _ c (by simpa [HT.inst] using h) k off hc)
theorem cellsT_noPtr : ∀ (t : Ty) (x : t.T) (c : E), c ∈ cellsT t x → ∀ k off, c ≠ .ptr k off
 | .pair a b, x, c, h => by
  simp only [cellsT, List.mem_append] at h
  rcases h with h | h
  ·exact cellsT_noPtr a _ c h
  ·exact cellsT_noPtr b _ c h
 | .ent _ a b, x, c, h => by
  simp only [cellsT, List.mem_append] at h
  rcases h with h | h
  ·exact cellsT_noPtr a _ c h
  ·exact cellsT_noPtr b _ c h
 | .set k, x, c, h => cellsT_noPtr k x c h
 | .int k, x, c, h => by simp only [cellsT, List.mem_singleton] at h; subst h; simp
 | .bool, x, c, h => by simp only [cellsT, List.mem_singleton] at h; subst h; simp
 | .str, x, c, h => by simp only [cellsT, List.mem_singleton] at h; subst h; simp
 | .sl r, x, c, h => by simp only [cellsT, List.mem_singleton] at h; subst h; simp
theorem instB_ptr {S : Sig} (hok : S.ok = true) (x : S.X) : ∀ b ∈ S.instB x, ∀ c ∈ b, ∀ k off, c = .ptr k off → ∃ i, k = .inb i ∧ i < S.boxes.length := by
 intro b hb c hc k off hcp
 obtain ⟨v, hv, rfl⟩ := List.mem_map.1 hb
 obtain ⟨m, hm⟩ := List.getElem?_of_mem hv
 rw [List.getElem?_drop] at hm
 obtain ⟨i, y, h1, h2⟩ := IT.inst_get _ _ _ _ hm
 rw [List.getElem?_append_right (by omega)] at h1
 have hi : i ∈ S.boxes := List.mem_of_getElem? h1
 simp only [Sig.ok, Bool.and_eq_true] at hok
 have hb2 := List.all_eq_true.1 hok.2.1 i hi
 have hp := List.all_eq_true.1 hok.2.2 i hi
 subst h2
 cases i with
 | row t => exact absurd hcp (cellsT_noPtr t y c hc k off)
 | cells l =>
  have hm := HT.ptr_mem l y c hc k off hcp
  have hp := List.all_eq_true.1 hp _ hm
  cases k with
  | inb i => exact ⟨i, rfl, by have := Nat.le_of_ble_eq_true hp; omega⟩
  | loc t => cases hp
  | esc t i => cases hp
 | cptr q o =>
  have hc' : c ∈ [E.ptr q o] := hc
  simp only [List.mem_singleton] at hc'
  rw [hcp] at hc'
  cases hc'
  cases k with
  | inb i => exact ⟨i, rfl, by have := Nat.le_of_ble_eq_true hp; omega⟩
  | loc t => cases hp
  | esc t i => cases hp
 | _ => cases hb2
theorem IT.inst_length : ∀ (l : List It) (x : IT l), (IT.inst l x).length = l.length
 | [], _ => rfl
 | i :: r, x => by simp [IT.inst, IT.inst_length r]
theorem boxIt_agg {i : It} (h : isBoxIt i = true) (x : i.T) : ∃ cs, i.inst x = .agg cs := by
 cases i <;> first | exact ⟨_, rfl⟩ | cases h
theorem inst_boxes : ∀ (l : List It) (x : IT l), l.all isBoxIt = true → ((IT.inst l x).map boxCells).map SVE.agg = IT.inst l x
 | [], _, _ => rfl
 | i :: r, x, h => by
  rw [List.all_cons, Bool.and_eq_true] at h
  simp only [IT.inst, List.map_cons]
  obtain ⟨cs, e⟩ := boxIt_agg h.1 (IT.hd i r x)
  rw [inst_boxes r _ h.2, e]
  rfl
theorem IT.inst_append (l m : List It) (x : IT (l ++ m)) : ∃ y : IT m, (IT.inst (l ++ m) x).drop l.length = IT.inst m y := by
 induction l with
 | nil => exact ⟨x, rfl⟩
 | cons i l ih => exact ih (IT.tl IT.dflt i (l ++ m) x)
theorem map_agg_inj : ∀ {a b : List (List C)}, a.map SV.agg = b.map SV.agg → a = b
 | [], [], _ => rfl
 | [], _ :: _, h => by simp at h
 | _ :: _, [], h => by simp at h
 | x :: a, y :: b, h => by
  simp only [List.map_cons, List.cons.injEq, SV.agg.injEq] at h
  rw [h.1, map_agg_inj h.2]
section
variable (S : Sig)
theorem Sig.instA_length (x : S.X) : (S.instA x).length = S.args.length := by simp [Sig.instA, IT.inst_length]
theorem Sig.instB_length (x : S.X) : (S.instB x).length = S.boxes.length := by simp [Sig.instB, IT.inst_length]
theorem Sig.inst_eq (hok : S.ok = true) (x : S.X) : S.instA x ++ (S.instB x).map SVE.agg = IT.inst (S.args ++ S.boxes) x := by
 simp only [Sig.ok, Bool.and_eq_true] at hok
 obtain ⟨y, hy⟩ := IT.inst_append S.args S.boxes x
 have : (S.instB x).map SVE.agg = (IT.inst (S.args ++ S.boxes) x).drop S.args.length := by
  unfold Sig.instB
  rw [hy]
  exact inst_boxes S.boxes y hok.2.1
 rw [this]
 exact List.take_append_drop _ _
theorem Sig.dec_some (hok : S.ok = true) {args : List SV} {boxes : List (List C)} {x : S.X} (h : S.dec args boxes = some x) : args = (S.instA x).map cSV ∧ boxes = (S.instB x).map cEs := by
 unfold Sig.dec at h
 split at h
 ·rename_i hl
  have e := IT.dec_some _ _ _ h
  rw [← Sig.inst_eq S hok x, List.map_append] at e
  have := List.append_inj e (by rw [List.length_map, Sig.instA_length, hl])
  refine ⟨this.1, ?_⟩
  have h2 := this.2
  rw [List.map_map] at h2
  have h3 : boxes.map SV.agg = ((S.instB x).map cEs).map SV.agg := by rw [h2, List.map_map]; rfl
  exact map_agg_inj h3
 ·cases h
theorem Sig.dec_inst (hok : S.ok = true) (x : S.X) : S.dec ((S.instA x).map cSV) ((S.instB x).map cEs) = some x := by
 have e : (S.instA x).map cSV ++ ((S.instB x).map cEs).map SV.agg = (IT.inst (S.args ++ S.boxes) x).map cSV := by
  rw [← Sig.inst_eq S hok x, List.map_append, List.map_map, List.map_map]; rfl
 unfold Sig.dec
 rw [if_pos (by rw [List.length_map, Sig.instA_length]), e]
 simp only [Sig.ok, Bool.and_eq_true] at hok
 exact IT.dec_inst _ x (by rw [List.all_append, hok.1.1, hok.1.2]; rfl)
theorem Sig.mat_eq (hok : S.ok = true) {args : List SVE} {boxes : List (List E)} {x : S.X} (h : S.mat args boxes = some x) : args.map cSV = (S.instA x).map cSV ∧ boxes.map cEs = (S.instB x).map cEs := by
 unfold Sig.mat at h
 split at h
 ·rename_i hl
  have e := IT.mat_eq _ _ _ h
  rw [← Sig.inst_eq S hok x, List.map_append, List.map_append] at e
  have := List.append_inj e (by rw [List.length_map, List.length_map, Sig.instA_length]; exact (beq_iff_eq.1 hl).symm)
  refine ⟨this.1.symm, ?_⟩
  have h2 := this.2
  rw [List.map_map, List.map_map] at h2
  have h3 : (boxes.map cEs).map SV.agg = ((S.instB x).map cEs).map SV.agg := by rw [List.map_map, List.map_map]; exact h2.symm
  exact map_agg_inj h3
 ·cases h
end
theorem overE_cEs {o : List (Option E)} : ∀ {a b : List E}, cEs a = cEs b → cEs (overE a o) = cEs (overE b o) := by
 induction o with
 | nil => intro a b h; cases a <;> cases b <;> simp_all [overE]
 | cons x o ih =>
  intro a b h
  cases a with
  | nil => cases b with
   | nil => rfl
   | cons y b => simp [cEs] at h
  | cons z a =>
   cases b with
   | nil => simp [cEs] at h
   | cons y b =>
    have h1 : cE z = cE y ∧ cEs a = cEs b := by simpa [cEs] using h
    show cE (match x with | some x => x | none => z) :: cEs (overE a o) = cE (match x with | some x => x | none => y) :: cEs (overE b o)
    rw [ih h1.2]
    cases x with
    | none => rw [h1.1]
    | some x => rfl
theorem newBoxes_cEs : ∀ {a b : List (List E)} (os : List (List (Option E))), a.map cEs = b.map cEs → (newBoxes a os).map cEs = (newBoxes b os).map cEs
 | [], [], os, _ => rfl
 | [], _ :: _, _, h => by simp at h
 | _ :: _, [], _, h => by simp at h
 | x :: a, y :: b, [], h => by simpa [newBoxes] using h
 | x :: a, y :: b, o :: os, h => by
  have h1 : cEs x = cEs y ∧ a.map cEs = b.map cEs := by simpa using h
  simp only [newBoxes, List.map_cons]
  rw [overE_cEs h1.1, newBoxes_cEs os h1.2]
def Sig.dY (S : Sig) : S.Y := IT.dflt _
def Sig.con (S : Sig) (hok : S.ok = true) (sh : S.X → Option S.Y) : Con where
 A := S.X
 R := S.Y
 d := S.dY
 mat := S.mat
 sh := sh
 two := S.opt
 flag := S.flag
 out := fun _ y b => S.out y b
 frz := S.frz
 F := S.F sh
 one := fun h y => by unfold Sig.flag; rw [h]
 ok := by
  intro args boxes x y hm hs
  obtain ⟨h1, h2⟩ := Sig.mat_eq S hok hm
  have : (boxes.map fun l => cEs l) = (S.instB x).map cEs := h2
  unfold Sig.F
  rw [h1, this, Sig.dec_inst S hok x]
  simp only [hs]
  rw [newBoxes_cEs _ h2]
def splitV : Nat → SVE → Option (List SVE)
 | 1, v => some [v]
 | n, .tup vs => match vs.length == n with
  | true => mapO (fun p => match p.1, p.2 with
   | true, cs => some (.agg cs)
   | false, [c] => some (.one c)
   | false, _ => none) vs
  | false => none
 | _, _ => none
def coll (d : Dirty) (k : Key) : Nat → List (Option Sh) → List E → Option (List E)
 | _, [], [] => some []
 | j, none :: o, c :: cs => match !part (.box k) j d && usable c with
  | true => coll d k (j + 1) o cs
  | false => none
 | j, some _ :: o, c :: cs => match coll d k (j + 1) o cs with
  | some l => some (c :: l)
  | none => none
 | _, _, _ => none
def collNew : List (Option Sh) → List E → Option (List E)
 | [], [] => some []
 | some _ :: o, c :: cs => match collNew o cs with
  | some l => some (c :: l)
  | none => none
 | _, _ => none
def collB (d : Dirty) : Nat → List (List E) → List (List (Option Sh)) → List (List E) → Option (List E)
 | i, b :: B, o :: os, c :: cs => match b.length == c.length && !whole (.box (.inb i)) d, coll d (.inb i) 0 o c, collB d (i + 1) B os cs with
  | true, some l, some l' => some (l ++ l')
  | _, _, _ => none
 | i, [], o :: os, c :: cs => match collNew o c, collB d (i + 1) [] os cs with
  | some l, some l' => some (l ++ l')
  | _, _ => none
 | _, [], [], [] => some []
 | _, _, _, _ => none
def unNul1 (n : Nat) (it : It) (v : SVE) : SVE := match it, v with
 | .ptr (.inb i) off, .one (.nul .ptr) => match Nat.ble n i with
  | true => .one (.ptr (.inb i) off)
  | false => .one (.nul .ptr)
 | _, v => v
def unNul (n : Nat) : List It → List SVE → List SVE
 | it :: its, v :: vs => unNul1 n it v :: unNul n its vs
 | _, vs => vs
def noNew (n : Nat) : SVE → Bool
 | .one (.ptr (.inb i) _) => !Nat.ble n i
 | _ => true
def dfltCells (l : List (List (Option Sh))) : List E := (IT.inst (l.flatMap someSh) (IT.dflt _)).map takeCell
def Sig.matY (S : Sig) (d : Dirty) (B : List (List E)) (v : SVE) (bs : List (List E)) : Option S.Y :=
 match S.opt with
 | false => match splitV S.res.length v, collB d 0 B S.rbox bs with
  | some vs, some cs => match vs.length == S.res.length with
   | true => IT.mat (S.res ++ S.rcells) (vs ++ cs.map .one)
   | false => none
  | _, _ => none
 | true => match bs.length == S.rbox.length with
  | true => match splitV S.res.length v, collB d 0 B S.rbox bs with
   | some vs, some cs => match vs.length == S.res.length with
    | true => IT.mat (S.res ++ S.rcells) (vs ++ (.tt :: cs).map .one)
    | false => none
   | _, _ => none
  | false => match splitV S.res.length v, collB d 0 B (S.rbox.take S.boxes.length) bs with
   | some vs, some cs => match vs.length == S.res.length && vs.all (noNew S.boxes.length) with
    | true => IT.mat (S.res ++ S.rcells) (unNul S.boxes.length S.res vs ++ (.ff :: cs ++ dfltCells (S.rbox.drop S.boxes.length)).map .one)
    | false => none
   | _, _ => none
def finX (F : VFE) (A : List SVE) (B : List (List E)) (res : List ResultVar) (S : Sig) (x : Ex × PSE) : Tr S.Y :=
 match x.1 with
 | .exit _ => .fail
 | _ => ((exitE F.cfg.c res B.length).both (stOf A x.2)).bind fun y =>
  match decide (y.2.1.frz = S.frz) with
  | true => match S.matY y.2.1.dirty B y.1.1 y.1.2 with
   | some z => .leaf z
   | none => .fail
  | false => .fail
def evF (F : VFE) (tbl : Nat → Option LoopRec) (c : Code) (res : List ResultVar) (S : Sig) (x : S.X) : Tr S.Y :=
 (evC F (S.instA x) (inbs S.boxes.length) tbl c 0 (startE (S.instA x) (S.instB x))).bind (finX F (S.instA x) (S.instB x) res S)
theorem splitV_eq {n : Nat} {v : SVE} {vs : List SVE} (h : splitV n v = some vs) (hl : vs.length = n) : outVE vs = v := by
 unfold splitV at h
 split at h
 ·cases h; rfl
 ·rename_i n ws hn
  split at h
  ·have e := mapO_some (g := tupOf) (f := fun p : Bool × List E => match p.1, p.2 with
    | true, cs => some (SVE.agg cs)
    | false, [c] => some (.one c)
    | false, _ => none) (fun a b hab => by
     obtain ⟨b1, cs⟩ := a
     cases b1 with
     | true => cases hab; rfl
     | false =>
      match cs, hab with
      | [c], hab => cases hab; rfl
      | [], hab => cases hab
      | _ :: _ :: _, hab => cases hab) ws vs h
   rw [e]
   match vs, hl with
   | [], _ => rfl
   | [u], hl => exact absurd hl.symm hn
   | _ :: _ :: _, _ => rfl
  ·cases h
 ·cases h
theorem coll_fill {d : Dirty} {k : Key} : ∀ (o : List (Option Sh)) (j : Nat) (c b l : List E), coll d k j o c = some l → b.length = c.length →
  (∀ i x y, part (.box k) (j + i) d = false → b[i]? = some x → c[i]? = some y → usable y = true → y = x) →
  ∀ l' rest, cEs l' = cEs l → ∃ os, fill1 o (l' ++ rest) = (os, rest) ∧ cEs (overE b os) = cEs c
 | [], j, [], b, l, h, hb, hk, l', rest, hl => by
  cases h
  cases b with
  | nil =>
   cases l' with
   | nil => exact ⟨[], rfl, rfl⟩
   | cons x r => simp [cEs] at hl
  | cons x b => simp at hb
 | none :: o, j, c :: cs, b, l, h, hb, hk, l', rest, hl => by
  simp only [coll] at h
  split at h
  ·rename_i hc
   simp only [Bool.and_eq_true, Bool.not_eq_true'] at hc
   cases b with
   | nil => simp at hb
   | cons x b =>
    obtain ⟨os, h1, h2⟩ := coll_fill o (j + 1) cs b l h (by simpa using hb) (fun i y z hp hy hz hu => hk (i + 1) y z (by rw [show j + (i + 1) = j + 1 + i by omega]; exact hp) (by simpa using hy) (by simpa using hz) hu) l' rest hl
    refine ⟨none :: os, by simp only [fill1, h1], ?_⟩
    have e := hk 0 x c (by simpa using hc.1) rfl rfl hc.2
    show cE x :: cEs (overE b os) = cE c :: cEs cs
    rw [h2, e]
  ·cases h
 | some sh :: o, j, c :: cs, b, l, h, hb, hk, l', rest, hl => by
  simp only [coll] at h
  split at h
  ·rename_i l1 h1
   cases h
   cases b with
   | nil => simp at hb
   | cons x b =>
    cases l' with
    | nil => simp [cEs] at hl
    | cons z l' =>
     have hl2 : cE z = cE c ∧ cEs l' = cEs l1 := by simpa [cEs] using hl
     obtain ⟨os, h2, h3⟩ := coll_fill o (j + 1) cs b l1 h1 (by simpa using hb) (fun i y z hp hy hz hu => hk (i + 1) y z (by rw [show j + (i + 1) = j + 1 + i by omega]; exact hp) (by simpa using hy) (by simpa using hz) hu) l' rest hl2.2
     refine ⟨some z :: os, by simp only [List.cons_append, fill1, h2], ?_⟩
     show cE z :: cEs (overE b os) = cE c :: cEs cs
     rw [h3, hl2.1]
  ·cases h
 | [], j, c :: cs, b, l, h, _, _, _, _, _ => by cases h
 | none :: o, j, [], b, l, h, _, _, _, _, _ => by cases h
 | some _ :: o, j, [], b, l, h, _, _, _, _, _ => by cases h
theorem collNew_fill : ∀ (o : List (Option Sh)) (c l : List E), collNew o c = some l → ∀ l' rest, cEs l' = cEs l → ∃ os, fill1 o (l' ++ rest) = (os, rest) ∧ cEs (unS os) = cEs c
 | [], [], l, h, l', rest, hl => by
  cases h
  cases l' with
  | nil => exact ⟨[], rfl, rfl⟩
  | cons x r => simp [cEs] at hl
 | some sh :: o, c :: cs, l, h, l', rest, hl => by
  simp only [collNew] at h
  split at h
  ·rename_i l1 h1
   cases h
   cases l' with
   | nil => simp [cEs] at hl
   | cons z l' =>
    have hl2 : cE z = cE c ∧ cEs l' = cEs l1 := by simpa [cEs] using hl
    obtain ⟨os, h2, h3⟩ := collNew_fill o cs l1 h1 l' rest hl2.2
    refine ⟨some z :: os, by simp only [List.cons_append, fill1, h2], ?_⟩
    show cE z :: cEs (unS os) = cE c :: cEs cs
    rw [h3, hl2.1]
  ·cases h
 | [], _ :: _, l, h, _, _, _ => by cases h
 | none :: o, _, l, h, _, _, _ => by cases h
 | some _ :: o, [], l, h, _, _, _ => by cases h
theorem cEs_split {l a b : List E} (h : cEs l = cEs (a ++ b)) : ∃ l1 l2, l = l1 ++ l2 ∧ cEs l1 = cEs a ∧ cEs l2 = cEs b := by
 refine ⟨l.take a.length, l.drop a.length, (List.take_append_drop _ _).symm, ?_, ?_⟩
 ·have := congrArg (List.take a.length) h
  simpa [cEs, ← List.map_take] using this
 ·have := congrArg (List.drop a.length) h
  simpa [cEs, ← List.map_drop] using this
theorem collB_fill {d : Dirty} : ∀ (os : List (List (Option Sh))) (i : Nat) (B bs : List (List E)) (l : List E), collB d i B os bs = some l →
  (∀ m b c, B[m]? = some b → bs[m]? = some c → whole (.box (.inb (i + m))) d = false → ∀ j x y, part (.box (.inb (i + m))) j d = false → b[j]? = some x → c[j]? = some y → usable y = true → y = x) →
  ∀ l', cEs l' = cEs l → (newBoxes B (fillB os l')).map cEs = bs.map cEs
 | [], i, [], [], l, h, _, l', hl => rfl
 | o :: os, i, b :: B, c :: bs, l, h, hk, l', hl => by
  simp only [collB] at h
  split at h
  ·rename_i l1 l2 h1 h2 h3
   cases h
   simp only [Bool.and_eq_true, beq_iff_eq, Bool.not_eq_true'] at h1
   obtain ⟨l1', l2', rfl, e1, e2⟩ := cEs_split hl
   obtain ⟨ws, g1, g2⟩ := coll_fill o 0 c b l1 h2 h1.1 (fun j x y hp hx hy hu => hk 0 b c rfl rfl (by simpa using h1.2) j x y (by simpa using hp) hx hy hu) l1' l2' e1
   have ih := collB_fill os (i + 1) B bs l2 h3 (fun m b c hb hc hw j x y hp hx hy hu => hk (m + 1) b c (by simpa using hb) (by simpa using hc) (by rw [show i + (m + 1) = i + 1 + m by omega]; exact hw) j x y (by rw [show i + (m + 1) = i + 1 + m by omega]; exact hp) hx hy hu) l2' e2
   simp only [fillB, g1, newBoxes, List.map_cons]
   rw [g2, ih]
  ·cases h
 | o :: os, i, [], c :: bs, l, h, hk, l', hl => by
  simp only [collB] at h
  split at h
  ·rename_i l1 l2 h2 h3
   cases h
   obtain ⟨l1', l2', rfl, e1, e2⟩ := cEs_split hl
   obtain ⟨ws, g1, g2⟩ := collNew_fill o c l1 h2 l1' l2' e1
   have ih := collB_fill os (i + 1) [] bs l2 h3 (fun m b c hb => by simp at hb) l2' e2
   simp only [fillB, g1]
   show cEs (unS ws) :: (newBoxes [] (fillB os l2')).map cEs = cEs c :: bs.map cEs
   rw [g2, ih]
  ·cases h
 | [], i, b :: B, bs, l, h, _, _, _ => by cases bs <;> simp [collB] at h
 | [], i, [], c :: bs, l, h, _, _, _ => by simp [collB] at h
 | o :: os, i, B, [], l, h, _, _, _ => by cases B <;> simp [collB] at h
theorem ones_cEs {l : List SVE} {cs : List E} (h : l.map cSV = (cs.map SVE.one).map cSV) : cEs (l.map takeCell) = cEs cs := by
 induction l generalizing cs with
 | nil => cases cs <;> first | rfl | simp at h
 | cons u l ih =>
  cases cs with
  | nil => simp at h
  | cons c cs =>
   simp only [List.map_cons, List.cons.injEq] at h
   show cE (takeCell u) :: cEs (l.map takeCell) = cE c :: cEs cs
   rw [ih h.2]
   congr 1
   cases u with
   | one x => have := h.1; simp only [cSV, SV.one.injEq] at this; exact this
   | _ => have := h.1; simp [cSV] at this
theorem mat_parts {S : Sig} {vs : List SVE} {cs : List E} {y : S.Y} (h : IT.mat (S.res ++ S.rcells) (vs ++ cs.map .one) = some y) (hl : vs.length = S.res.length) :
  ((IT.inst (S.res ++ S.rcells) y).take S.res.length).map cSV = vs.map cSV ∧ cEs (((IT.inst (S.res ++ S.rcells) y).drop S.res.length).map takeCell) = cEs cs := by
 have e := IT.mat_eq _ _ _ h
 rw [List.map_append] at e
 constructor
 ·have := congrArg (List.take S.res.length) e
  rw [List.take_append_of_le_length (by rw [List.length_map]; omega), List.take_of_length_le (l := vs.map cSV) (by rw [List.length_map]; omega), ← List.map_take] at this
  exact this
 ·refine ones_cEs ?_
  have := congrArg (List.drop S.res.length) e
  rw [List.drop_append_of_le_length (by rw [List.length_map]; omega), List.drop_of_length_le (l := vs.map cSV) (by rw [List.length_map]; omega), ← List.map_drop, List.nil_append] at this
  exact this
def nulS (n : Nat) : SV → SV
 | .one (.ptr (.inb i) off) => match Nat.ble n i with
  | true => .one (.d (.nul .ptr))
  | false => .one (.ptr (.inb i) off)
 | v => v
theorem nulV_eq (n : Nat) (v : SVE) : cSV (nulV n v) = nulS n (cSV v) := by
 have other : ∀ c : E, (∀ i off, c ≠ .ptr (.inb i) off) → nulV n (.one c) = .one c ∧ nulS n (cSV (.one c)) = cSV (.one c) := by
  intro c hc
  constructor
  ·unfold nulV
   split
   ·rename_i i off hh; cases hh; exact absurd rfl (hc i off)
   ·rfl
  ·unfold nulS
   split
   ·rename_i i off hh
    have hh : SV.one (cE c) = SV.one (.ptr (.inb i) off) := hh
    rw [SV.one.injEq] at hh
    exact absurd (cE_ptr hh) (hc i off)
   ·rfl
 cases v with
 | one c =>
  by_cases h : ∃ i off, c = .ptr (.inb i) off
  ·obtain ⟨i, off, rfl⟩ := h
   simp only [nulV, cSV, cE, nulS]
   cases Nat.ble n i <;> rfl
  ·obtain ⟨h1, h2⟩ := other c (fun i off e => h ⟨i, off, e⟩)
   rw [h1, h2]
 | _ => rfl
theorem noNew_eq {n : Nat} {v : SVE} (h : noNew n v = true) : nulS n (cSV v) = cSV v := by
 rw [← nulV_eq]
 congr 1
 unfold nulV
 split
 ·rename_i i off
  simp only [noNew, Bool.not_eq_true'] at h
  rw [h]
 ·rfl
theorem unNul1_eq {n : Nat} {it : It} {v u : SVE} (h : noNew n v = true) (hu : cSV u = cSV (unNul1 n it v)) : cSV (nulV n u) = cSV v := by
 rw [nulV_eq, hu]
 unfold unNul1
 split
 ·rename_i i off
  cases hb : Nat.ble n i with
  | true => simp only [cSV, cE, nulS, hb]
  | false => rfl
 ·exact noNew_eq h
theorem unNul_eq (n : Nat) : ∀ (its : List It) (vs us : List SVE), vs.all (noNew n) = true → us.map cSV = (unNul n its vs).map cSV → (us.map (nulV n)).map cSV = vs.map cSV
 | _, [], us, _, h => by
  have : us = [] := by
   cases us with
   | nil => rfl
   | cons u us => unfold unNul at h; split at h <;> simp_all
  subst this
  rfl
 | [], v :: vs, us, hall, h => by
  have base : ∀ (vs us : List SVE), vs.all (noNew n) = true → us.map cSV = vs.map cSV → (us.map (nulV n)).map cSV = vs.map cSV := by
   intro vs
   induction vs with
   | nil => intro us _ h; cases us <;> first | rfl | simp at h
   | cons v vs ih =>
    intro us hall h
    cases us with
    | nil => simp at h
    | cons u us =>
     simp only [List.map_cons, List.cons.injEq] at h
     rw [List.all_cons, Bool.and_eq_true] at hall
     have := ih us hall.2 h.2
     simp only [List.map_cons, List.cons.injEq]
     exact ⟨by rw [nulV_eq, h.1, noNew_eq hall.1], this⟩
  exact base _ us hall h
 | it :: its, v :: vs, us, hall, h => by
  rw [List.all_cons, Bool.and_eq_true] at hall
  cases us with
  | nil => simp [unNul] at h
  | cons u us =>
   simp only [unNul, List.map_cons, List.cons.injEq] at h
   have := unNul_eq n its vs us hall.2 h.2
   simp only [List.map_cons, List.cons.injEq]
   exact ⟨unNul1_eq hall.1 h.1, this⟩
theorem unNul_length (n : Nat) : ∀ (its : List It) (vs : List SVE), (unNul n its vs).length = vs.length
 | [], vs => by cases vs <;> rfl
 | it :: its, [] => rfl
 | it :: its, v :: vs => by simp [unNul, unNul_length n its vs]
theorem flag_of {l : List E} {c : E} {cs : List E} (h : cEs l = cEs (c :: cs)) (hc : c = .tt ∨ c = .ff) : flagOf l = (match c with | .tt => true | _ => false) ∧ cEs (l.drop 1) = cEs cs := by
 cases l with
 | nil => simp [cEs] at h
 | cons x l =>
  have h1 : cE x = cE c ∧ cEs l = cEs cs := by simpa [cEs] using h
  refine ⟨?_, h1.2⟩
  have hx := h1.1
  rcases hc with rfl | rfl
  ·cases x with
   | b v => simp only [cE, C.d.injEq, D.bool.injEq] at hx; simp [flagOf, hx]
   | tt => rfl
   | ff => simp [cE] at hx
   | l m t xs => cases m <;> simp [cE, lC] at hx
   | n m t o => cases m <;> cases o <;> simp [cE, lC] at hx
   | gone b => cases b <;> simp [cE] at hx
   | _ => simp [cE] at hx
  ·cases x with
   | b v => simp only [cE, C.d.injEq, D.bool.injEq] at hx; simp [flagOf, hx]
   | ff => rfl
   | tt => simp [cE] at hx
   | l m t xs => cases m <;> simp [cE, lC] at hx
   | n m t o => cases m <;> cases o <;> simp [cE, lC] at hx
   | gone b => cases b <;> simp [cE] at hx
   | _ => simp [cE] at hx
theorem coll_fill' {d : Dirty} {k : Key} (o : List (Option Sh)) (c b l : List E) (h : coll d k 0 o c = some l) (hb : b.length = c.length)
  (hk : ∀ i x y, part (.box k) i d = false → b[i]? = some x → c[i]? = some y → usable y = true → y = x) (l' rest : List E) (hl : cEs l' = cEs l) : ∃ os, fill1 o (l' ++ rest) = (os, rest) ∧ cEs (overE b os) = cEs c :=
 coll_fill o 0 c b l h hb (fun i x y hp => hk i x y (by simpa using hp)) l' rest hl
theorem collB_fill_rest {d : Dirty} : ∀ (os : List (List (Option Sh))) (i : Nat) (B bs : List (List E)) (l : List E), collB d i B os bs = some l →
  (∀ m b c, B[m]? = some b → bs[m]? = some c → whole (.box (.inb (i + m))) d = false → ∀ j x y, part (.box (.inb (i + m))) j d = false → b[j]? = some x → c[j]? = some y → usable y = true → y = x) →
  ∀ l' rest, cEs l' = cEs l → (newBoxes B (fillB os (l' ++ rest))).map cEs = bs.map cEs
 | [], i, [], [], l, h, _, l', rest, hl => rfl
 | o :: os, i, b :: B, c :: bs, l, h, hk, l', rest, hl => by
  simp only [collB] at h
  split at h
  ·rename_i l1 l2 h1 h2 h3
   cases h
   simp only [Bool.and_eq_true, beq_iff_eq, Bool.not_eq_true'] at h1
   obtain ⟨l1', l2', rfl, e1, e2⟩ := cEs_split hl
   obtain ⟨ws, g1, g2⟩ := coll_fill o 0 c b l1 h2 h1.1 (fun j x y hp hx hy hu => hk 0 b c rfl rfl (by simpa using h1.2) j x y (by simpa using hp) hx hy hu) l1' (l2' ++ rest) e1
   have ih := collB_fill_rest os (i + 1) B bs l2 h3 (fun m b c hb hc hw j x y hp hx hy hu => hk (m + 1) b c (by simpa using hb) (by simpa using hc) (by rw [show i + (m + 1) = i + 1 + m by omega]; exact hw) j x y (by rw [show i + (m + 1) = i + 1 + m by omega]; exact hp) hx hy hu) l2' rest e2
   simp only [fillB, List.append_assoc, g1, newBoxes, List.map_cons]
   rw [g2, ih]
  ·cases h
 | o :: os, i, [], c :: bs, l, h, hk, l', rest, hl => by
  simp only [collB] at h
  split at h
  ·rename_i l1 l2 h2 h3
   cases h
   obtain ⟨l1', l2', rfl, e1, e2⟩ := cEs_split hl
   obtain ⟨ws, g1, g2⟩ := collNew_fill o c l1 h2 l1' (l2' ++ rest) e1
   have ih := collB_fill_rest os (i + 1) [] bs l2 h3 (fun m b c hb => by simp at hb) l2' rest e2
   simp only [fillB, List.append_assoc, g1]
   show cEs (unS ws) :: (newBoxes [] (fillB os (l2' ++ rest))).map cEs = cEs c :: bs.map cEs
   rw [g2, ih]
  ·cases h
 | [], i, b :: B, bs, l, h, _, _, _, _ => by cases bs <;> simp [collB] at h
 | [], i, [], c :: bs, l, h, _, _, _, _ => by simp [collB] at h
 | o :: os, i, B, [], l, h, _, _, _, _ => by cases B <;> simp [collB] at h
theorem matY_eq {S : Sig} {d : Dirty} {B bs : List (List E)} {v : SVE} {y : S.Y} (h : S.matY d B v bs = some y)
  (hk : ∀ m b c, B[m]? = some b → bs[m]? = some c → whole (.box (.inb m)) d = false → ∀ j x z, part (.box (.inb m)) j d = false → b[j]? = some x → c[j]? = some z → usable z = true → z = x) :
  cSV v = cSV (S.out y (S.flag y)).1 ∧ bs.map cEs = (newBoxes B (S.out y (S.flag y)).2).map cEs := by
 unfold Sig.matY at h
 split at h
 ·rename_i hopt
  have hout : S.out y (S.flag y) = (outVE ((IT.inst (S.res ++ S.rcells) y).take S.res.length), fillB S.rbox (((IT.inst (S.res ++ S.rcells) y).drop S.res.length).map takeCell)) := by
   unfold Sig.out; rw [hopt]
  rw [hout]
  split at h
  ·rename_i vs cs h1 h2
   split at h
   ·rename_i h3
    have hl : vs.length = S.res.length := by simpa using h3
    obtain ⟨ht, hd⟩ := mat_parts h hl
    refine ⟨?_, ?_⟩
    ·show cSV v = cSV (outVE _)
     rw [outVE_eq, ht, ← outVE_eq, splitV_eq h1 hl]
    ·exact (collB_fill S.rbox 0 B bs cs h2 (by simpa using hk) _ hd).symm
   ·cases h
  ·cases h
 ·rename_i hopt
  split at h
  ·split at h
   ·rename_i vs cs h1 h2
    split at h
    ·rename_i h3
     have hl : vs.length = S.res.length := by simpa using h3
     obtain ⟨ht, hd⟩ := mat_parts h hl
     obtain ⟨f1, f2⟩ := flag_of hd (.inl rfl)
     have hfl : S.flag y = true := by unfold Sig.flag; rw [hopt]; exact f1
     have hout : S.out y true = (outVE ((IT.inst (S.res ++ S.rcells) y).take S.res.length), fillB S.rbox ((((IT.inst (S.res ++ S.rcells) y).drop S.res.length).map takeCell).drop 1)) := by
      unfold Sig.out; rw [hopt]
     rw [hfl, hout]
     refine ⟨?_, ?_⟩
     ·show cSV v = cSV (outVE _)
      rw [outVE_eq, ht, ← outVE_eq, splitV_eq h1 hl]
     ·exact (collB_fill S.rbox 0 B bs cs h2 (by simpa using hk) _ f2).symm
    ·cases h
   ·cases h
  ·split at h
   ·rename_i vs cs h1 h2
    split at h
    ·rename_i h3
     simp only [Bool.and_eq_true, beq_iff_eq] at h3
     obtain ⟨hl, hall⟩ := h3
     obtain ⟨ht, hd⟩ := mat_parts h (by rw [unNul_length]; exact hl)
     obtain ⟨f1, f2⟩ := flag_of hd (.inr rfl)
     have hfl : S.flag y = false := by unfold Sig.flag; rw [hopt]; exact f1
     have hout : S.out y false = (outVE (((IT.inst (S.res ++ S.rcells) y).take S.res.length).map (nulV S.boxes.length)), fillB (S.rbox.take S.boxes.length) ((((IT.inst (S.res ++ S.rcells) y).drop S.res.length).map takeCell).drop 1)) := by
      unfold Sig.out; rw [hopt]
     rw [hfl, hout]
     refine ⟨?_, ?_⟩
     ·show cSV v = cSV (outVE _)
      rw [outVE_eq, unNul_eq S.boxes.length S.res vs _ hall ht, ← outVE_eq, splitV_eq h1 hl]
     ·obtain ⟨l1, l2, e0, e1, e2⟩ := cEs_split f2
      show _ = (newBoxes B (fillB _ _)).map cEs
      rw [e0]
      exact (collB_fill_rest (S.rbox.take S.boxes.length) 0 B bs cs h2 (by simpa using hk) l1 l2 e1).symm
    ·cases h
   ·cases h
end Go.Ve
