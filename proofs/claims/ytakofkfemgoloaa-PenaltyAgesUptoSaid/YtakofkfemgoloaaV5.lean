/- The statement PenaltyAgesUptoSaid of the given program is proved here: for every input whose bulk is at most the bound of its row, the law returns true and changes nothing. Part 5 of 5. -/
import Derived.Test.YtakofkfemgoloaaChecked
import Derived.KernelRfl
import Derived.Laws.Externs
import Derived.Test.YtakofkfemgoloaaRows
import Derived.JoinedCond
import Derived.Test.YtakofkfemgoloaaV4
/- The seat's types. -/
namespace Go.Proofs.Ytakofkfemgoloaa.ve
open Go Go.Vs Go.Ve Go.Proofs.Try
def T : List (TypeId × TI) := [(2, ⟨1, 8, .int .i64, (some [.int .i64 0])⟩),
  (3, ⟨1, 8, .int .i64, (some [.int .i64 0])⟩),
  (4, ⟨1, 1, .bool, (some [.bool false])⟩),
  (5, ⟨1, 1, .int .u8, (some [.int .u8 0])⟩),
  (9, ⟨1, 16, .str, (some [.str []])⟩),
  (22, ⟨1, 24, .slice 37, (some [.nil])⟩),
  (23, ⟨1, 24, .slice 50, (some [.nil])⟩),
  (25, ⟨8, 128, .struct [(0, 23), (1, 23), (2, 9), (3, 9), (4, 9), (5, 9), (6, 3), (7, 3)], (some [.nil, .nil, .str [], .str [], .str [], .str [], .int .i64 0, .int .i64 0])⟩),
  (26, ⟨1, 24, .slice 3, (some [.nil])⟩),
  (30, ⟨1, 8, .ptr 32, (some [.nul .ptr])⟩),
  (32, ⟨2, 32, .struct [(0, 26), (1, 3)], (some [.nil, .int .i64 0])⟩),
  (37, ⟨5, 56, .struct [(0, 3), (1, 9), (2, 9), (3, 3), (4, 3)], (some [.int .i64 0, .str [], .str [], .int .i64 0, .int .i64 0])⟩),
  (43, ⟨1, 8, .int .i64, (some [.int .i64 0])⟩),
  (47, ⟨1, 24, .slice 9, (some [.nil])⟩),
  (50, ⟨3, 32, .struct [(0, 3), (1, 9), (2, 3)], (some [.int .i64 0, .str [], .int .i64 0])⟩),
  (62, ⟨1, 8, .int .u64, (some [.int .u64 0])⟩),
  (64, ⟨2, 16, .struct [(0, 2), (1, 62)], (some [.int .i64 0, .int .u64 0])⟩)]
def R : List (TypeId × Ty) := [(2, (.int .i64)),
  (3, (.int .i64)),
  (4, .bool),
  (5, (.int .u8)),
  (9, .str),
  (22, (.sl (.pair (.int .i64) (.pair .str (.pair .str (.pair (.int .i64) (.int .i64))))))),
  (23, (.sl (.pair (.int .i64) (.pair .str (.int .i64))))),
  (25, (.pair (.sl (.pair (.int .i64) (.pair .str (.int .i64)))) (.pair (.sl (.pair (.int .i64) (.pair .str (.int .i64)))) (.pair .str (.pair .str (.pair .str (.pair .str (.pair (.int .i64) (.int .i64))))))))),
  (26, (.sl (.int .i64))),
  (32, (.pair (.sl (.int .i64)) (.int .i64))),
  (37, (.pair (.int .i64) (.pair .str (.pair .str (.pair (.int .i64) (.int .i64)))))),
  (43, (.int .i64)),
  (47, (.sl .str)),
  (50, (.pair (.int .i64) (.pair .str (.int .i64)))),
  (62, (.int .u64)),
  (64, (.pair (.int .i64) (.int .u64)))]
def AllP {α : Type} (p : α → Prop) : List α → Prop
  | [] => True
  | a :: r => p a ∧ AllP p r
theorem AllP.mem {α : Type} {p : α → Prop} : ∀ {l : List α}, AllP p l → ∀ x ∈ l, p x
  | _ :: _, h, _, .head _ => h.1
  | _ :: _, h, _, .tail _ hx => AllP.mem h.2 _ hx
theorem T_ok : AllP (fun x => tiOf prog x.1 = some x.2) T := ⟨by show tiOf prog _ = some _; kernel_rfl, by show tiOf prog _ = some _; kernel_rfl, by show tiOf prog _ = some _; kernel_rfl, by show tiOf prog _ = some _; kernel_rfl, by show tiOf prog _ = some _; kernel_rfl, by show tiOf prog _ = some _; kernel_rfl, by show tiOf prog _ = some _; kernel_rfl, by show tiOf prog _ = some _; kernel_rfl, by show tiOf prog _ = some _; kernel_rfl, by show tiOf prog _ = some _; kernel_rfl, by show tiOf prog _ = some _; kernel_rfl, by show tiOf prog _ = some _; kernel_rfl, by show tiOf prog _ = some _; kernel_rfl, by show tiOf prog _ = some _; kernel_rfl, by show tiOf prog _ = some _; kernel_rfl, by show tiOf prog _ = some _; kernel_rfl, by show tiOf prog _ = some _; kernel_rfl, trivial⟩
theorem lk_mem {α : Type} {t : Nat} {v : α} : ∀ {l : List (Nat × α)}, lk t l = some v → (t, v) ∈ l
  | (u, w) :: l, h => by
    unfold lk at h
    split at h
    · rename_i e; cases h; subst e; simp
    · exact List.mem_cons_of_mem _ (lk_mem h)
theorem tabsT {cfg : Cfg} (h : cfg.T = T) (he : cfg.eqs = []) : Tabs prog cfg :=
  ⟨fun t i hi => AllP.mem T_ok (t, i) (lk_mem (by rw [← h]; exact hi)), fun t ht => by rw [he] at ht; cases ht⟩
theorem mix : prog.follows .mixedOrders = true := by kernel_rfl
end Go.Proofs.Ytakofkfemgoloaa.ve
/- bitext/penalty.widen -/
namespace Go.Proofs.Ytakofkfemgoloaa.ve
open Go Go.Vs Go.Ve Go.Proofs.Try
set_option linter.unusedVariables false
def F33 : VFE := { cfg := { N := 8, T := T, R := R, con := fun _ f => lkF f [], var := [0, 1], res := [], eqs := [] }, keys := [0, 2], bkeys := [.loc 2] }
def S33 : Sig := { args := [.one (.i .i64)], boxes := [], res := [.row (.pair (.int .i64) (.int .u64))], rbox := [], frz := [] }
def L33 : Nat → Option LoopRec := fun _ => none
def penalty_widen : Int → Option (Int × Int) :=
  fun n => some (n.fdiv 9223372036854775808, IntKind.u64.wrap n)
set_option maxRecDepth 100000 in
theorem run33 : ∀ x, gives F33 L33 f33 S33 x = (fun x => penalty_widen x) x := by
  intro x
  kernel_rfl
theorem fn33 : FnCalls prog 33 (S33.F (fun x => penalty_widen x)) := fn_sig (F := F33) (tbl := L33) func33 (by kernel_rfl) mix (cok_list (l := []) (tabsT rfl rfl) rfl (by simp)) (by kernel_rfl) (by kernel_rfl) (by decide) (fun _ => by kernel_rfl) run33
def C33 : Con := S33.con (by kernel_rfl) (fun x => penalty_widen x)
theorem G33 : Good1 prog (33, C33) := good_of func33 (by kernel_rfl) (by kernel_rfl) fn33
end Go.Proofs.Ytakofkfemgoloaa.ve
/- math/bits.Sub64, without a borrow. -/
namespace Go.Proofs.Ytakofkfemgoloaa.ve
open Go Go.Vs Go.Ve Go.Proofs.Try
def sub64Entry : Array Value → Sem Value := fun args => do
  let (x, y, b) ← Extern.MathBitsCarry.three "Sub64" args
  pure (Extern.MathBitsCarry.pair ((x + Extern.MathBitsCarry.m64 - y - b) % Extern.MathBitsCarry.m64) (if x < y + b then 1 else 0))
theorem run_sub64 {P : Program} (x y b : Nat) (hb : b ≤ 1) (w : World) :
    (sub64Entry #[.int .u64 x, .int .u64 y, .int .u64 b]).run P w =
      .ok (.tuple #[.int .u64 (((x + 18446744073709551616 - y - b) % 18446744073709551616 : Nat) : Int), .int .u64 ((if x < y + b then 1 else 0 : Nat) : Int)]) w := by
  have : b = 0 ∨ b = 1 := by omega
  rcases this with rfl | rfl <;> rfl
def S34 : Sig := { args := [.one (.i .u64), .one (.i .u64), .one (.i .u64)], res := [.one (.i .u64), .one (.i .u64)] }
def bits_Sub64 (x y b : Int) : Option (Int × Int) :=
  if 0 ≤ x ∧ 0 ≤ y ∧ y ≤ 18446744073709551616 ∧ b = 0 then some ((x + 18446744073709551616 - y) % 18446744073709551616, if x < y then 1 else 0) else none
theorem getD_of {vals : Array Value} {l : List Value} (hs : vals.size = l.length) (h : ∀ i, i < l.length → vals.getD i undef = l.getD i undef) : vals = l.toArray := by
  apply Array.ext
  · simpa using hs
  · intro i h1 h2
    have := h i (by omega)
    simp only [Array.getD_eq_getD_getElem?, Array.getElem?_eq_getElem h1, List.getD_eq_getElem?_getD, Option.getD_some] at this
    rw [List.getElem?_eq_getElem (by omega)] at this
    simpa using this
theorem sub64_ok : CallOK prog 34 (S34.F fun x => bits_Sub64 x.1 x.2.1 x.2.2) := by
  intro args boxes r h w vals β ω Z hsz hok hpl hent
  unfold Sig.F at h
  split at h
  · rename_i z hz
    split at h
    · rename_i y hy
      obtain ⟨x, yy, b⟩ := z
      obtain ⟨h1, h2⟩ := Sig.dec_some S34 (by kernel_rfl) hz
      subst h1 h2
      cases h
      simp only [bits_Sub64] at hy
      split at hy
      · rename_i hb
        obtain ⟨hx, hy1, hy2, rfl⟩ := hb
        cases hy
        have h0 := (hent.args 0).2
        have h1 := (hent.args 1).2
        have h2 := (hent.args 2).2
        have hv : vals = #[.int .u64 x, .int .u64 yy, .int .u64 0] := by
          refine getD_of (l := [.int .u64 x, .int .u64 yy, .int .u64 0]) hsz fun i hi => ?_
          match i, hi with
          | 0, _ => exact h0
          | 1, _ => exact h1
          | 2, _ => exact h2
        obtain ⟨a, rfl⟩ := Int.eq_ofNat_of_zero_le hx
        obtain ⟨c, rfl⟩ := Int.eq_ofNat_of_zero_le hy1
        refine .inr ⟨.tuple #[.int .u64 (((a + 18446744073709551616 - c - 0) % 18446744073709551616 : Nat) : Int), .int .u64 ((if a < c + 0 then 1 else 0 : Nat) : Int)], w, _, _, Z, ?_, exit_scalar hent hok rfl rfl rfl (Nat.le_refl _) (fun _ _ _ => rfl) (K₀ := ctxOf prog 0 w vals β ω Z) (β₀ := β) (Z₀ := Z) (s₀ := fun _ => {}) (a₀ := { tmps := #[], defers := [] }) (w₀ := w) ?_ ?_ rfl rfl⟩
        · subst hv
          rw [run_callFunc_extern func34 (by kernel_rfl) (by kernel_rfl) (by kernel_rfl) (e := sub64Entry) (by kernel_rfl)]
          have := run_sub64 (P := prog) a c 0 (by omega) w
          simp only [Int.natCast_zero] at this ⊢
          rw [this]
          rfl
        · refine ⟨_, rfl, ⟨?_, ?_, trivial⟩⟩
          · simp only [TRel]
            refine ⟨_, rfl, rfl, ?_⟩
            show Value.int _ _ = Value.int _ (((a : Int) + 18446744073709551616 - (c : Int)) % 18446744073709551616)
            congr 1
            omega
          · simp only [TRel]
            refine ⟨_, rfl, rfl, ?_⟩
            show Value.int _ _ = Value.int _ _
            congr 1
            show _ = (if (a : Int) < c then (1 : Int) else 0)
            by_cases hlt : a < c
            · simp [hlt]
            · simp [hlt]
        · rfl
      · cases hy
    · cases h
  · cases h
def C34 : Con := S34.con (by kernel_rfl) (fun x => bits_Sub64 x.1 x.2.1 x.2.2)
theorem G34 : Good1 prog (34, C34) := sub64_ok
end Go.Proofs.Ytakofkfemgoloaa.ve
/- bitext/penalty.aged -/
namespace Go.Proofs.Ytakofkfemgoloaa.ve
open Go Go.Vs Go.Ve Go.Proofs.Try
set_option linter.unusedVariables false
def F23 : VFE := { cfg := { N := 51, T := T, R := R, con := fun _ f => lkF f [(33, C33), (34, C34)], var := [0, 1, 2, 3, 4, 5, 6, 7, 8, 9, 10, 11, 12], res := [6], eqs := [] }, keys := [0, 1, 2, 6, 7, 8, 9, 10, 11, 12], bkeys := [.loc 7, .loc 8, .loc 9] }
def S23 : Sig := { args := [.one (.i .i64), .one (.i .i64), .one (.i .i64)], boxes := [], res := [.one .b], rbox := [], frz := [] }
def L23 : Nat → Option LoopRec := fun _ => none
def penalty_aged : Int → Int → Int → Option Bool :=
  fun now created older =>
    callO (penalty_widen now) fun r0 =>
      callO (penalty_widen created) fun r1 =>
        callO (penalty_widen older) fun r2 =>
          callO (bits_Sub64 r0.snd r1.snd 0) fun r3 =>
            some
              (decide (IntKind.i64.wrap (IntKind.i64.wrap (r0.fst - r1.fst) - IntKind.i64.wrap r3.snd) > r2.fst) ||
                IntKind.i64.wrap (IntKind.i64.wrap (r0.fst - r1.fst) - IntKind.i64.wrap r3.snd) == r2.fst &&
                  decide (r3.fst ≥ r2.snd))
set_option maxRecDepth 100000 in
theorem run23 : ∀ x, gives F23 L23 f23 S23 x = (fun x => penalty_aged x.1 x.2.1 x.2.2) x := by
  intro x
  kernel_rfl
theorem fn23 : FnCalls prog 23 (S23.F (fun x => penalty_aged x.1 x.2.1 x.2.2)) := fn_sig (F := F23) (tbl := L23) func23 (by kernel_rfl) mix (cok_list (l := [(33, C33), (34, C34)]) (tabsT rfl rfl) rfl (List.forall_mem_cons.2 ⟨G33, List.forall_mem_cons.2 ⟨G34, by simp⟩⟩)) (by kernel_rfl) (by kernel_rfl) (by decide) (fun _ => by kernel_rfl) run23
def C23 : Con := S23.con (by kernel_rfl) (fun x => penalty_aged x.1 x.2.1 x.2.2)
theorem G23 : Good1 prog (23, C23) := good_of func23 (by kernel_rfl) (by kernel_rfl) fn23
end Go.Proofs.Ytakofkfemgoloaa.ve
/- bitext/penalty.Applies -/
namespace Go.Proofs.Ytakofkfemgoloaa.ve
open Go Go.Vs Go.Ve Go.Proofs.Try
set_option linter.unusedVariables false
def F13 : VFE := { cfg := { N := 52, T := T, R := R, con := fun _ f => lkF f [(23, C23)], var := [0, 1, 2, 3, 4, 5, 6], res := [6], eqs := [] }, keys := [0, 1, 2, 3, 4, 6, 7, 18], bkeys := [.loc 3, .loc 4] }
def S13 : Sig := { args := [.row (.pair (.int .i64) (.pair .str (.pair .str (.pair (.int .i64) (.int .i64))))), .row (.pair (.sl (.pair (.int .i64) (.pair .str (.int .i64)))) (.pair (.sl (.pair (.int .i64) (.pair .str (.int .i64)))) (.pair .str (.pair .str (.pair .str (.pair .str (.pair (.int .i64) (.int .i64)))))))), .one (.i .i64)], boxes := [], res := [.one .b], rbox := [], frz := [] }
def L13 : Nat → Option LoopRec := fun _ => none
def penalty_Applies : Int × List UInt8 × List UInt8 × Int × Int →
    Option (List (Int × List UInt8 × Int)) ×
        Option (List (Int × List UInt8 × Int)) × List UInt8 × List UInt8 × List UInt8 × List UInt8 × Int × Int →
      Int → Option Bool :=
  fun p e now =>
    if (p.fst != 0 && p.fst != e.snd.snd.snd.snd.snd.snd.snd) = true then some false
    else
      if
          (if (!decide (p.snd.fst = [])) = true then
              !decide (p.snd.fst = e.snd.snd.snd.snd.fst) ||
                !decide (p.snd.snd.fst = []) && !decide (p.snd.snd.fst = e.snd.snd.snd.snd.snd.fst)
            else !decide (p.snd.snd.fst = []) && !decide (p.snd.snd.fst = e.snd.snd.snd.snd.snd.fst)) =
            true then
        some false
      else
        if decide (p.snd.snd.snd.fst ≤ 0) = true then some true
        else callO (penalty_aged now e.snd.snd.snd.snd.snd.snd.fst p.snd.snd.snd.fst) fun r0 => some r0
set_option maxRecDepth 100000 in
theorem run13 : ∀ x, gives F13 L13 f13 S13 x = (fun x => penalty_Applies x.1 x.2.1 x.2.2) x := by
  intro x
  kernel_rfl
theorem fn13 : FnCalls prog 13 (S13.F (fun x => penalty_Applies x.1 x.2.1 x.2.2)) := fn_sig (F := F13) (tbl := L13) func13 (by kernel_rfl) mix (cok_list (l := [(23, C23)]) (tabsT rfl rfl) rfl (List.forall_mem_cons.2 ⟨G23, by simp⟩)) (by kernel_rfl) (by kernel_rfl) (by decide) (fun _ => by kernel_rfl) run13
def C13 : Con := S13.con (by kernel_rfl) (fun x => penalty_Applies x.1 x.2.1 x.2.2)
theorem G13 : Good1 prog (13, C13) := good_of func13 (by kernel_rfl) (by kernel_rfl) fn13
end Go.Proofs.Ytakofkfemgoloaa.ve
/- bitext/penalty.Points -/
namespace Go.Proofs.Ytakofkfemgoloaa.ve
open Go Go.Vs Go.Ve Go.Proofs.Try
set_option linter.unusedVariables false
def F15 : VFE := { cfg := { N := 33, T := T, R := R, con := fun _ f => lkF f [(13, C13)], var := [0, 1, 2, 3, 4, 5, 6, 7, 8, 9], res := [6], eqs := [] }, keys := [0, 1, 2, 4, 6, 7, 9, 10, 11, 12, 13, 24], bkeys := [.loc 4, .loc 9] }
def S15 : Sig := { args := [.one (.n .data (.pair (.int .i64) (.pair .str (.pair .str (.pair (.int .i64) (.int .i64)))))), .row (.pair (.sl (.pair (.int .i64) (.pair .str (.int .i64)))) (.pair (.sl (.pair (.int .i64) (.pair .str (.int .i64)))) (.pair .str (.pair .str (.pair .str (.pair .str (.pair (.int .i64) (.int .i64)))))))), .one (.i .i64)], boxes := [], res := [.one (.i .i64)], rbox := [], frz := [] }
def L15 : Nat → Option LoopRec := fun n => match n with
  | 0 => some { head := { live := [2, 4, 7, 10, 11, 12], lbox := [(.loc 4)], vs := [.slot 7 (.i .i64), .slot 12 (.i .i64)] }, exits := [(.exit 0, { live := [7], lbox := [], vs := [.slot 7 (.i .i64)] })] }
  | _ => none
def penalty_Points_l0 : Option (List (Int × List UInt8 × List UInt8 × Int × Int)) →
    Option (List (Int × List UInt8 × Int)) ×
        Option (List (Int × List UInt8 × Int)) × List UInt8 × List UInt8 × List UInt8 × List UInt8 × Int × Int →
      Int → Int × Int → Option (Int × Int ⊕ Int) :=
  fun l e now s0 =>
    if decide (s0.snd < lenI (l.getD [])) = true then
      if decide (0 ≤ s0.snd ∧ s0.snd < lenI (l.getD [])) = true then
        if decide (((l.getD []).getD s0.snd.toNat (0, [], [], 0, 0)).snd.snd.snd.snd > 0) = true then
          callO
            (penalty_Applies
              (((l.getD []).getD s0.snd.toNat (0, [], [], 0, 0)).fst,
                ((l.getD []).getD s0.snd.toNat (0, [], [], 0, 0)).snd.fst,
                ((l.getD []).getD s0.snd.toNat (0, [], [], 0, 0)).snd.snd.fst,
                ((l.getD []).getD s0.snd.toNat (0, [], [], 0, 0)).snd.snd.snd.fst,
                ((l.getD []).getD s0.snd.toNat (0, [], [], 0, 0)).snd.snd.snd.snd)
              (e.fst, e.snd.fst, e.snd.snd.fst, e.snd.snd.snd.fst, e.snd.snd.snd.snd.fst, e.snd.snd.snd.snd.snd.fst,
                e.snd.snd.snd.snd.snd.snd.fst, e.snd.snd.snd.snd.snd.snd.snd)
              now)
            fun r1 =>
            some
              (Sum.inl
                (if r1 = true then
                    minI
                      (IntKind.i64.wrap
                        (s0.fst + minI ((l.getD []).getD s0.snd.toNat (0, [], [], 0, 0)).snd.snd.snd.snd 100))
                      100
                  else s0.fst,
                  IntKind.i64.wrap (s0.snd + 1)))
        else some (Sum.inl (s0.fst, IntKind.i64.wrap (s0.snd + 1)))
      else none
    else some (Sum.inr s0.fst)
def penalty_Points : Option (List (Int × List UInt8 × List UInt8 × Int × Int)) →
    Option (List (Int × List UInt8 × Int)) ×
        Option (List (Int × List UInt8 × Int)) × List UInt8 × List UInt8 × List UInt8 × List UInt8 × Int × Int →
      Int → Option Int :=
  fun l e now => callO (loopR (penalty_Points_l0 l e now) (0, 0)) fun r2 => some r2
set_option maxRecDepth 100000 in
theorem run15 : ∀ x, gives F15 L15 f15 S15 x = (fun x => penalty_Points x.1 x.2.1 x.2.2) x := by
  intro x
  kernel_rfl
theorem fn15 : FnCalls prog 15 (S15.F (fun x => penalty_Points x.1 x.2.1 x.2.2)) := fn_sig (F := F15) (tbl := L15) func15 (by kernel_rfl) mix (cok_list (l := [(13, C13)]) (tabsT rfl rfl) rfl (List.forall_mem_cons.2 ⟨G13, by simp⟩)) (by kernel_rfl) (by kernel_rfl) (by decide) (fun _ => by kernel_rfl) run15
def C15 : Con := S15.con (by kernel_rfl) (fun x => penalty_Points x.1 x.2.1 x.2.2)
theorem G15 : Good1 prog (15, C15) := good_of func15 (by kernel_rfl) (by kernel_rfl) fn15
end Go.Proofs.Ytakofkfemgoloaa.ve
/- bitext/bitextlaw17.known -/
namespace Go.Proofs.Ytakofkfemgoloaa.ve
open Go Go.Vs Go.Ve Go.Proofs.Try
set_option linter.unusedVariables false
def F9 : VFE := { cfg := { N := 22, T := T, R := R, con := fun _ f => lkF f [(13, C13), (15, C15)], var := [0, 1, 2], res := [0], eqs := [] }, keys := [0, 1, 2], bkeys := [.loc 1, .loc 2] }
def S9 : Sig := { args := [], boxes := [], res := [.one .b], rbox := [], frz := [] }
def L9 : Nat → Option LoopRec := fun _ => none
def bitextlaw17_known : Option Bool :=
  callO (penalty_Applies (3, [], [], 10, 60) (none, none, [], [], [], [], 5, 3) 15) fun r0 =>
    if r0 = true then
      callO (penalty_Applies (3, [], [], 10, 60) (none, none, [], [], [], [], 5, 3) 14) fun r1 =>
        if (!r1) = true then
          callO
            (penalty_Points (some ((3, [], [], 10, 60) :: (3, [], [], 10, 60) :: List.replicate 0 (0, [], [], 0, 0)))
              (none, none, [], [], [], [], 5, 3) 15)
            fun r2 => some (r2 == 100)
        else some false
    else some false
set_option maxRecDepth 100000 in
theorem run9 : ∀ x, gives F9 L9 f9 S9 x = (fun _ => bitextlaw17_known) x := by
  intro x
  kernel_rfl
theorem fn9 : FnCalls prog 9 (S9.F (fun _ => bitextlaw17_known)) := fn_sig (F := F9) (tbl := L9) func9 (by kernel_rfl) mix (cok_list (l := [(13, C13), (15, C15)]) (tabsT rfl rfl) rfl (List.forall_mem_cons.2 ⟨G13, List.forall_mem_cons.2 ⟨G15, by simp⟩⟩)) (by kernel_rfl) (by kernel_rfl) (by decide) (fun _ => by kernel_rfl) run9
def C9 : Con := S9.con (by kernel_rfl) (fun _ => bitextlaw17_known)
theorem G9 : Good1 prog (9, C9) := good_of func9 (by kernel_rfl) (by kernel_rfl) fn9
end Go.Proofs.Ytakofkfemgoloaa.ve
/- bitext/bitextmake.Place -/
namespace Go.Proofs.Ytakofkfemgoloaa.ve
open Go Go.Vs Go.Ve Go.Proofs.Try
set_option linter.unusedVariables false
def F12 : VFE := { cfg := { N := 14, T := T, R := R, con := fun _ f => lkF f [], var := [0, 1, 2, 3, 4], res := [4], eqs := [] }, keys := [0, 1, 4, 9], bkeys := [] }
def S12 : Sig := { args := [.one (.i .i64), .one (.i .i64)], boxes := [], res := [.one (.i .i64)], rbox := [], frz := [] }
def L12 : Nat → Option LoopRec := fun _ => none
def bitextmake_Place : Int → Int → Option Int :=
  fun x n =>
    if decide (n ≠ 0) = true then
      some (if decide (x.tmod n < 0) = true then IntKind.i64.wrap (x.tmod n + n) else x.tmod n)
    else none
set_option maxRecDepth 100000 in
theorem run12 : ∀ x, gives F12 L12 f12 S12 x = (fun x => bitextmake_Place x.1 x.2) x := by
  intro x
  kernel_rfl
theorem fn12 : FnCalls prog 12 (S12.F (fun x => bitextmake_Place x.1 x.2)) := fn_sig (F := F12) (tbl := L12) func12 (by kernel_rfl) mix (cok_list (l := []) (tabsT rfl rfl) rfl (by simp)) (by kernel_rfl) (by kernel_rfl) (by decide) (fun _ => by kernel_rfl) run12
def C12 : Con := S12.con (by kernel_rfl) (fun x => bitextmake_Place x.1 x.2)
theorem G12 : Good1 prog (12, C12) := good_of func12 (by kernel_rfl) (by kernel_rfl) fn12
end Go.Proofs.Ytakofkfemgoloaa.ve
/- bitext/bitextlaw17.PenaltyAges -/
namespace Go.Proofs.Ytakofkfemgoloaa.ve
open Go Go.Vs Go.Ve Go.Proofs.Try
set_option linter.unusedVariables false
def F4 : VFE := { cfg := { N := 78, T := T, R := R, con := fun _ f => lkF f [(9, C9), (12, C12), (13, C13)], var := [0, 1, 4], res := [4], eqs := [] }, keys := [0, 1, 4, 5, 6, 7, 42, 58], bkeys := [.loc 5, .loc 6] }
def S4 : Sig := { args := [.one (.i .i64), .one (.i .i64)], boxes := [], res := [.one .b], rbox := [], frz := [] }
def L4 : Nat → Option LoopRec := fun _ => none
def bitextlaw17_PenaltyAges : Int → Int → Option Bool :=
  fun a0 a1 =>
    callO (bitextmake_Place a1 1073741824) fun r0 =>
      callO (bitextmake_Place a0 1073741824) fun r1 =>
        callO
          (penalty_Applies (0, [], [], IntKind.i64.wrap (1 + r0), 0) (none, none, [], [], [], [], r1, 0)
            (IntKind.i64.wrap (r1 + IntKind.i64.wrap (1 + r0))))
          fun r2 =>
          if (!r2) = true then some false
          else
            callO
              (penalty_Applies (0, [], [], IntKind.i64.wrap (1 + r0), 0) (none, none, [], [], [], [], r1, 0)
                (IntKind.i64.wrap (IntKind.i64.wrap (r1 + IntKind.i64.wrap (1 + r0)) - 1)))
              fun r3 =>
              if r3 = true then some false
              else
                callO
                  (penalty_Applies (0, [], [], IntKind.i64.wrap (1 + r0), 0) (none, none, [], [], [], [], r1, 0)
                    (-9223372036854775808))
                  fun r4 =>
                  if r4 = true then some false
                  else
                    callO
                      (penalty_Applies (0, [], [], IntKind.i64.wrap (1 + r0), 0) (none, none, [], [], [], [], r1, 0)
                        9223372036854775807)
                      fun r5 =>
                      if (!r5) = true then some false
                      else
                        callO
                          (penalty_Applies (0, [], [], IntKind.i64.wrap (1 + r0), 0)
                            (none, none, [], [], [], [], -9223372036854775808, 0) 0)
                          fun r6 =>
                          if (!r6) = true then some false
                          else
                            callO
                              (penalty_Applies (0, [], [], IntKind.i64.wrap (1 + r0), 0)
                                (none, none, [], [], [], [], -9223372036854775808, 0) 9223372036854775807)
                              fun r7 =>
                              if (!r7) = true then some false
                              else
                                callO
                                  (penalty_Applies (0, [], [], IntKind.i64.wrap (1 + r0), 0)
                                    (none, none, [], [], [], [], -9223372036854775808, 0) (-9223372036854775808))
                                  fun r8 =>
                                  if r8 = true then some false
                                  else
                                    callO
                                      (penalty_Applies (0, [], [], IntKind.i64.wrap (1 + r0), 0)
                                        (none, none, [], [], [], [], 9223372036854775807, 0) 0)
                                      fun r9 =>
                                      if (!r9) = true then
                                        callO
                                          (penalty_Applies (0, [], [], IntKind.i64.wrap (1 + r0), 0)
                                            (none, none, [], [], [], [], 9223372036854775807, 0) 9223372036854775807)
                                          fun r10 =>
                                          if (!r10) = true then
                                            callO
                                              (penalty_Applies (0, [], [], 0, 0)
                                                (none, none, [], [], [], [], 9223372036854775807, 0)
                                                (-9223372036854775808))
                                              fun r11 =>
                                              if r11 = true then callO bitextlaw17_known fun r12 => some r12
                                              else some false
                                          else some false
                                      else some false
set_option maxRecDepth 100000 in
theorem run4 : ∀ x, gives F4 L4 f4 S4 x = (fun x => bitextlaw17_PenaltyAges x.1 x.2) x := by
  intro x
  kernel_rfl
theorem fn4 : FnCalls prog 4 (S4.F (fun x => bitextlaw17_PenaltyAges x.1 x.2)) := fn_sig (F := F4) (tbl := L4) func4 (by kernel_rfl) mix (cok_list (l := [(9, C9), (12, C12), (13, C13)]) (tabsT rfl rfl) rfl (List.forall_mem_cons.2 ⟨G9, List.forall_mem_cons.2 ⟨G12, List.forall_mem_cons.2 ⟨G13, by simp⟩⟩⟩)) (by kernel_rfl) (by kernel_rfl) (by decide) (fun _ => by kernel_rfl) run4
def C4 : Con := S4.con (by kernel_rfl) (fun x => bitextlaw17_PenaltyAges x.1 x.2)
theorem G4 : Good1 prog (4, C4) := good_of func4 (by kernel_rfl) (by kernel_rfl) fn4
end Go.Proofs.Ytakofkfemgoloaa.ve
/- Plain laws of the penalties: ages. -/
namespace Go.Proofs.Ytakofkfemgoloaa.ve
open Go Go.Vs Go.Ve Go.Proofs.Try
def In64 (n : Int) : Prop := -9223372036854775808 ≤ n ∧ n ≤ 9223372036854775807
theorem fdiv63 {n : Int} (h : In64 n) : n.fdiv 9223372036854775808 = if n < 0 then -1 else 0 := by
  rw [Int.fdiv_eq_ediv_of_nonneg _ (by decide)]
  unfold In64 at h
  split <;> omega
theorem wrap_u64 {n : Int} (h : In64 n) : IntKind.u64.wrap n = if n < 0 then n + 18446744073709551616 else n := by
  unfold In64 at h
  simp only [IntKind.wrap, IntKind.bits, IntKind.signed]
  simp
  split <;> omega
theorem aged_eq {now created older : Int} (h1 : In64 now) (h2 : In64 created) (h3 : In64 older) : penalty_aged now created older = some (decide (older ≤ now - created)) := by
  simp only [penalty_aged, penalty_widen, callO_some, fdiv63 h1, fdiv63 h2, fdiv63 h3, wrap_u64 h1, wrap_u64 h2, wrap_u64 h3]
  unfold In64 at *
  have hs : ∀ x y : Int, 0 ≤ x → 0 ≤ y → y ≤ 18446744073709551616 → bits_Sub64 x y 0 = some ((x + 18446744073709551616 - y) % 18446744073709551616, if x < y then 1 else 0) := by
    intro x y a b c
    unfold bits_Sub64
    rw [if_pos ⟨a, b, c, rfl⟩]
  rw [hs _ _ (by split <;> omega) (by split <;> omega) (by split <;> omega)]
  simp only [callO_some]
  congr 1
  have hb : ∀ (c : Prop) [Decidable c], IntKind.i64.wrap (if c then (1 : Int) else 0) = if c then 1 else 0 := by intro c _; split <;> rfl
  rw [hb]
  generalize ha : (if now < 0 then now + 18446744073709551616 else now) = a
  generalize hc : (if created < 0 then created + 18446744073709551616 else created) = c
  rw [wrap_i64 (n := (if now < 0 then -1 else 0) - if created < 0 then -1 else 0) (by split <;> split <;> omega) (by split <;> split <;> omega)]
  rw [wrap_i64 (by split <;> split <;> split <;> omega) (by split <;> split <;> split <;> omega)]
  rw [Bool.eq_iff_iff]
  simp only [Bool.or_eq_true, Bool.and_eq_true, decide_eq_true_eq, beq_iff_eq]
  split at ha <;> split at hc <;> split <;> split <;> omega
theorem place_eq {x n : Int} (hx : In64 x) (hn : 1 ≤ n) (hn2 : n ≤ 4611686018427387904) : bitextmake_Place x n = some (x % n) := by
  unfold In64 at hx
  unfold bitextmake_Place
  rw [if_pos (by simp; omega)]
  congr 1
  have h0 := Int.emod_nonneg x (show n ≠ 0 by omega)
  have h1 := Int.emod_lt_of_pos x (show 0 < n by omega)
  rcases Int.lt_or_le x 0 with h | h
  · have e : x.tmod n = if n ∣ x then 0 else x % n - n := by
      rw [Int.tmod_eq_emod]
      split <;> rename_i hd
      · rcases hd with hd | hd
        · omega
        · rw [if_pos hd]; have := Int.emod_eq_zero_of_dvd hd; omega
      · rw [if_neg (fun hd' => hd (.inr hd'))]
        omega
    rw [e]
    split <;> rename_i hd
    · simp [Int.emod_eq_zero_of_dvd hd]
    · rw [if_pos (by simp; omega), wrap_i64 (by omega) (by omega)]; omega
  · rw [Int.tmod_eq_emod_of_nonneg h, if_neg (by simp; omega)]
theorem known_eq : bitextlaw17_known = some true := by kernel_rfl
theorem applies_old {older created pts now : Int} {src : Option (List (Int × List UInt8 × Int)) × Option (List (Int × List UInt8 × Int)) × List UInt8 × List UInt8 × List UInt8 × List UInt8} {org : Int} (h1 : In64 now) (h2 : In64 created) (h3 : In64 older) :
    penalty_Applies (0, [], [], older, pts) (src.1, src.2.1, src.2.2.1, src.2.2.2.1, src.2.2.2.2.1, src.2.2.2.2.2, created, org) now = some (decide (older ≤ 0 ∨ older ≤ now - created)) := by
  unfold penalty_Applies
  simp only [aged_eq h1 h2 h3, callO_some]
  by_cases h : older ≤ 0 <;> simp [h]
theorem ages_holds (a b : Int) (ha : In64 a) (hb : In64 b) : bitextlaw17_PenaltyAges a b = some true := by
  unfold bitextlaw17_PenaltyAges
  rw [place_eq hb (by decide) (by decide)]
  have hr := Int.emod_nonneg b (show (1073741824 : Int) ≠ 0 by decide)
  have hr' := Int.emod_lt_of_pos b (show (0 : Int) < 1073741824 by decide)
  have hq := Int.emod_nonneg a (show (1073741824 : Int) ≠ 0 by decide)
  have hq' := Int.emod_lt_of_pos a (show (0 : Int) < 1073741824 by decide)
  rw [place_eq ha (by decide) (by decide)]
  simp only [callO_some]
  generalize b % 1073741824 = r at *
  generalize a % 1073741824 = q at *
  have h0 : In64 (1 + r) := by unfold In64; omega
  have h2 : In64 q := by unfold In64; omega
  have ap := fun (older created pts now org : Int) h1 h2 h3 => applies_old (older := older) (created := created) (pts := pts) (now := now) (src := (none, none, [], [], [], [])) (org := org) h1 h2 h3
  simp only at ap
  rw [wrap_i64 h0.1 h0.2, wrap_i64 (n := q + (1 + r)) (by omega) (by omega), wrap_i64 (n := q + (1 + r) - 1) (by omega) (by omega)]
  rw [ap _ _ _ _ _ (by unfold In64; omega) h2 h0, callO_some, decide_eq_true (by omega : 1 + r ≤ 0 ∨ 1 + r ≤ q + (1 + r) - q)]
  rw [ap _ _ _ _ _ (by unfold In64; omega) h2 h0, callO_some, decide_eq_false (by omega : ¬ (1 + r ≤ 0 ∨ 1 + r ≤ q + (1 + r) - 1 - q))]
  rw [ap _ _ _ _ _ (by unfold In64; omega) h2 h0, callO_some, decide_eq_false (by omega : ¬ (1 + r ≤ 0 ∨ 1 + r ≤ -9223372036854775808 - q))]
  rw [ap _ _ _ _ _ (by unfold In64; omega) h2 h0, callO_some, decide_eq_true (by omega : (1 + r ≤ 0 ∨ 1 + r ≤ 9223372036854775807 - q))]
  rw [ap _ _ _ _ _ (by unfold In64; omega) (by unfold In64; omega) h0, callO_some, decide_eq_true (by omega : (1 + r ≤ 0 ∨ 1 + r ≤ 0 - -9223372036854775808))]
  rw [ap _ _ _ _ _ (by unfold In64; omega) (by unfold In64; omega) h0, callO_some, decide_eq_true (by omega : (1 + r ≤ 0 ∨ 1 + r ≤ 9223372036854775807 - -9223372036854775808))]
  rw [ap _ _ _ _ _ (by unfold In64; omega) (by unfold In64; omega) h0, callO_some, decide_eq_false (by omega : ¬ (1 + r ≤ 0 ∨ 1 + r ≤ -9223372036854775808 - -9223372036854775808))]
  rw [ap _ _ _ _ _ (by unfold In64; omega) (by unfold In64; omega) h0, callO_some, decide_eq_false (by omega : ¬ (1 + r ≤ 0 ∨ 1 + r ≤ 0 - 9223372036854775807))]
  rw [ap _ _ _ _ _ (by unfold In64; omega) (by unfold In64; omega) h0, callO_some, decide_eq_false (by omega : ¬ (1 + r ≤ 0 ∨ 1 + r ≤ 9223372036854775807 - 9223372036854775807))]
  rw [ap _ _ _ _ _ (by unfold In64; omega) (by unfold In64; omega) (by unfold In64; omega), callO_some]
  simp [known_eq]
end Go.Proofs.Ytakofkfemgoloaa.ve
/- The law holds. -/
namespace Go.Proofs.Ytakofkfemgoloaa.penaltyAges
open Go Go.ChangeShapes Go.WideShapes Go.ChangeAt Go.RowKit Go.Vs Go.Ve Go.Proofs.Ytakofkfemgoloaa.ve
set_option linter.unusedVariables false
theorem own : ownKnob Try.prog.godebug = none := by kernel_rfl
def B (H : Type) : Bulk H where
  one := Rows.uptoBulk
  all := Rows.uptoBulkAll
  str := fun _ => by simp only [Rows.uptoBulk]
  slice := fun _ _ => by simp only [Rows.uptoBulk]
  agg := fun _ => by simp only [Rows.uptoBulk]
  pos := fun d => by
    cases d with
    | lit l => cases l <;> simp only [Rows.uptoBulk] <;> omega
    | _ => simp only [Rows.uptoBulk] <;> omega
  nil := by simp only [Rows.uptoBulkAll]
  cons := fun _ _ => by simp only [Rows.uptoBulkAll]
theorem contract (H : Type) (enc : TypeId × Value → H) (W : World) (base : Nat) (args : Array Value) (ds gs : List (DataW H)) (before : List MemPlace)
    (hval : ∀ (j : Nat) t v, Try.f4.params[j]? = some t → args[j]? = some v → Value.okWide Try.prog W .any base t v)
    (hW : DataW.Whole enc Try.prog Try.f4.params.toList Rows.penaltyAgesSpec.vars false W args.toList ds gs before) (hk : Rows.uptoSmall H (ds ++ gs) = true) :
    Calls Try.prog 4 args W fun e W' => ∃ v, e = .returned v ∧ Rows.penaltyAgesSpec.post enc Try.prog Try.f4 false true false false W args v W' :=
  law_typed (cfg := F4.cfg.c) (l := S4.args) (n := 20) (m := 1048576) (ts := Try.f4.params.toList) (sp := Rows.penaltyAgesSpec) (by kernel_rfl) fn4 (tabsT rfl rfl) rfl rfl (tb := 4) (by kernel_rfl) (by kernel_rfl)
    (by kernel_rfl) (by
      intro t ht
      exact List.all_eq_true.1 (by kernel_rfl : Try.f4.params.toList.all (fun t => plainT F4.cfg.c 20 t) = true) t ht) (by kernel_rfl)
    (by
      intro t ht
      have := List.all_eq_true.1 (by kernel_rfl : Try.f4.params.toList.all (fun t => Try.prog.readableRec t && Nat.blt t Try.prog.types.size) = true) t ht
      rw [Bool.and_eq_true, Nat.blt_eq] at this
      exact this) (B H) (Nat.le_trans (bulk_append (B H) ds gs) (of_decide_eq_true hk))
    (fun x hw hb => ⟨x, rfl, ages_holds x.1 x.2 hw.1 hw.2.1⟩)
    (fun ds h => by
      match ds, h with
      | [d1, d2], _ => rfl)
    hval hW
set_option maxRecDepth 100000 in
theorem lifted (os : Os) (started : os.Started) (H : Type) (enc : TypeId × Value → H) (F : Stop.Interp) :
    ReturnsInHanded {} Try.checked os 4 .any ((Rows.OpenSpec.upto Rows.penaltyAgesSpec).pre6 enc Try.prog Try.f4 Rows.penaltyAgesUptoRow.domain false) (((Rows.OpenSpec.upto Rows.penaltyAgesSpec).at F).post enc Try.prog Try.f4 false true false false) := by
  refine returnsInHanded_of_cond (C := Try.checked) (s := Rows.OpenSpec.upto Rows.penaltyAgesSpec) (k := Rows.uptoSmall) rfl own started (by kernel_rfl) Try.func4
    (OpenSpec.witness (enc := enc) (C := Try.checked) (s := Rows.OpenSpec.upto Rows.penaltyAgesSpec) (k := Rows.uptoSmall) rfl false ⟨#[], #[.int .i64 0, .int .i64 0], []⟩ 8 (by kernel_rfl) (by kernel_rfl) (by kernel_rfl)
      (x := ([.lit (.int .i64 0), .lit (.int .i64 0)], [], [])) (by kernel_rfl) rfl (by kernel_rfl)) ?_
  intro W base args ds gs before hval hW _ hk _
  exact contract H enc W base args ds gs before hval hW hk
theorem over : Rows.penaltyAgesUptoRow.holds Try.pinned (Rows.OpenSpec.upto Rows.penaltyAgesSpec) :=
  OpenClaim.holds_of_cond 4 Try.f4 rfl rfl rfl rfl rfl rfl rfl ⟨rfl, rfl, rfl, rfl, rfl⟩ rfl rfl rfl rfl rfl (by kernel_rfl) Try.func4 (by kernel_rfl)
    (of_decide_eq_true (by kernel_rfl)) (by unfold Func.isWrapper; first | (rw [if_pos (by decide +kernel)]; kernel_rfl) | (rw [if_neg (by decide +kernel)]; exact ⟨rfl, rfl⟩))
    (fun os started H enc _ F => lifted os started H enc F)
theorem proved : Rows.PenaltyAgesUptoSaid :=
  over
end Go.Proofs.Ytakofkfemgoloaa.penaltyAges
#print axioms Go.Proofs.Ytakofkfemgoloaa.penaltyAges.proved
