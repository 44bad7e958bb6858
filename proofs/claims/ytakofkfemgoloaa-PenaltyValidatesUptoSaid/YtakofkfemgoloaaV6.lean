/- The statement PenaltyValidatesUptoSaid of the given program is proved here: for every input whose bulk is at most the bound of its row, the law returns true and changes nothing. Part 6 of 6. -/
import Derived.Test.YtakofkfemgoloaaChecked
import Derived.KernelRfl
import Derived.Laws.Externs
import Derived.Test.YtakofkfemgoloaaRows
import Derived.JoinedCond
import Derived.Test.YtakofkfemgoloaaV5
/- The seat's types. -/
namespace Go.Proofs.Ytakofkfemgoloaa.ve
open Go Go.Vs Go.Ve Go.Proofs.Try
def T : List (TypeId × TI) := [(2, ⟨1, 8, .int .i64, (some [.int .i64 0])⟩),
  (3, ⟨1, 8, .int .i64, (some [.int .i64 0])⟩),
  (4, ⟨1, 1, .bool, (some [.bool false])⟩),
  (5, ⟨1, 1, .int .u8, (some [.int .u8 0])⟩),
  (9, ⟨1, 16, .str, (some [.str []])⟩),
  (22, ⟨1, 24, .slice 37, (some [.nil])⟩),
  (23, ⟨1, 24, .slice 50, (some [.nil])⟩),
  (25, ⟨8, 128, .struct [(0, 23), (1, 23), (2, 9), (3, 9), (4, 9), (5, 9), (6, 3), (7, 3)], (some [.nil, .nil, .str [], .str [], .str [], .str [], .int .i64 0, .int .i64 0])⟩),
  (26, ⟨1, 24, .slice 3, (some [.nil])⟩),
  (30, ⟨1, 8, .ptr 32, (some [.nul .ptr])⟩),
  (32, ⟨2, 32, .struct [(0, 26), (1, 3)], (some [.nil, .int .i64 0])⟩),
  (37, ⟨5, 56, .struct [(0, 3), (1, 9), (2, 9), (3, 3), (4, 3)], (some [.int .i64 0, .str [], .str [], .int .i64 0, .int .i64 0])⟩),
  (43, ⟨1, 8, .int .i64, (some [.int .i64 0])⟩),
  (47, ⟨1, 24, .slice 9, (some [.nil])⟩),
  (50, ⟨3, 32, .struct [(0, 3), (1, 9), (2, 3)], (some [.int .i64 0, .str [], .int .i64 0])⟩),
  (62, ⟨1, 8, .int .u64, (some [.int .u64 0])⟩),
  (64, ⟨2, 16, .struct [(0, 2), (1, 62)], (some [.int .i64 0, .int .u64 0])⟩)]
def R : List (TypeId × Ty) := [(2, (.int .i64)),
  (3, (.int .i64)),
  (4, .bool),
  (5, (.int .u8)),
  (9, .str),
  (22, (.sl (.pair (.int .i64) (.pair .str (.pair .str (.pair (.int .i64) (.int .i64))))))),
  (23, (.sl (.pair (.int .i64) (.pair .str (.int .i64))))),
  (25, (.pair (.sl (.pair (.int .i64) (.pair .str (.int .i64)))) (.pair (.sl (.pair (.int .i64) (.pair .str (.int .i64)))) (.pair .str (.pair .str (.pair .str (.pair .str (.pair (.int .i64) (.int .i64))))))))),
  (26, (.sl (.int .i64))),
  (32, (.pair (.sl (.int .i64)) (.int .i64))),
  (37, (.pair (.int .i64) (.pair .str (.pair .str (.pair (.int .i64) (.int .i64)))))),
  (43, (.int .i64)),
  (47, (.sl .str)),
  (50, (.pair (.int .i64) (.pair .str (.int .i64)))),
  (62, (.int .u64)),
  (64, (.pair (.int .i64) (.int .u64)))]
def AllP {α : Type} (p : α → Prop) : List α → Prop
  | [] => True
  | a :: r => p a ∧ AllP p r
theorem AllP.mem {α : Type} {p : α → Prop} : ∀ {l : List α}, AllP p l → ∀ x ∈ l, p x
  | _ :: _, h, _, .head _ => h.1
  | _ :: _, h, _, .tail _ hx => AllP.mem h.2 _ hx
theorem T_ok : AllP (fun x => tiOf prog x.1 = some x.2) T := ⟨by show tiOf prog _ = some _; kernel_rfl, by show tiOf prog _ = some _; kernel_rfl, by show tiOf prog _ = some _; kernel_rfl, by show tiOf prog _ = some _; kernel_rfl, by show tiOf prog _ = some _; kernel_rfl, by show tiOf prog _ = some _; kernel_rfl, by show tiOf prog _ = some _; kernel_rfl, by show tiOf prog _ = some _; kernel_rfl, by show tiOf prog _ = some _; kernel_rfl, by show tiOf prog _ = some _; kernel_rfl, by show tiOf prog _ = some _; kernel_rfl, by show tiOf prog _ = some _; kernel_rfl, by show tiOf prog _ = some _; kernel_rfl, by show tiOf prog _ = some _; kernel_rfl, by show tiOf prog _ = some _; kernel_rfl, by show tiOf prog _ = some _; kernel_rfl, by show tiOf prog _ = some _; kernel_rfl, trivial⟩
theorem lk_mem {α : Type} {t : Nat} {v : α} : ∀ {l : List (Nat × α)}, lk t l = some v → (t, v) ∈ l
  | (u, w) :: l, h => by
    unfold lk at h
    split at h
    · rename_i e; cases h; subst e; simp
    · exact List.mem_cons_of_mem _ (lk_mem h)
theorem tabsT {cfg : Cfg} (h : cfg.T = T) (he : cfg.eqs = []) : Tabs prog cfg :=
  ⟨fun t i hi => AllP.mem T_ok (t, i) (lk_mem (by rw [← h]; exact hi)), fun t ht => by rw [he] at ht; cases ht⟩
theorem mix : prog.follows .mixedOrders = true := by kernel_rfl
end Go.Proofs.Ytakofkfemgoloaa.ve
/- bitext/bitextlaw17.light -/
namespace Go.Proofs.Ytakofkfemgoloaa.ve
open Go Go.Vs Go.Ve Go.Fn Go.Proofs.Try
set_option linter.unusedVariables false
def F8 : VFE := { cfg := { N := 29, T := T, R := R, con := fun _ f => lkF f [], var := [0, 1, 2, 3, 4], res := [2], eqs := [] }, keys := [0, 2, 3, 4, 6, 7, 8], bkeys := [] }
def S8 : Sig := { args := [.one (.n .data (.pair (.int .i64) (.pair .str (.pair .str (.pair (.int .i64) (.int .i64))))))], boxes := [], res := [.one .b], rbox := [], frz := [] }
def L8 : Nat → Option LoopRec := fun n => match n with
  | 0 => some { head := { live := [0, 3, 6, 7], lbox := [], vs := [.slot 3 (.i .i64), .slot 7 (.i .i64)] }, exits := [(.exit 0, { live := [3], lbox := [], vs := [.slot 3 (.i .i64)] })] }
  | _ => none
set_option maxRecDepth 100000 in
theorem run8 : ∀ x, gives F8 L8 f8 S8 x = (fun x => bitextlaw17_light x) x := by
  intro x
  kernel_rfl
theorem fn8 : FnCalls prog 8 (S8.F (fun x => bitextlaw17_light x)) := fn_sig (F := F8) (tbl := L8) func8 (by kernel_rfl) mix (cok_list (l := []) (tabsT rfl rfl) rfl (by simp)) (by kernel_rfl) (by kernel_rfl) (by decide) (fun _ => by kernel_rfl) run8
def C8 : Con := S8.con (by kernel_rfl) (fun x => bitextlaw17_light x)
theorem G8 : Good1 prog (8, C8) := good_of func8 (by kernel_rfl) (by kernel_rfl) fn8
end Go.Proofs.Ytakofkfemgoloaa.ve
/- bitext/penalty.widen -/
namespace Go.Proofs.Ytakofkfemgoloaa.ve
open Go Go.Vs Go.Ve Go.Fn Go.Proofs.Try
set_option linter.unusedVariables false
def F33 : VFE := { cfg := { N := 8, T := T, R := R, con := fun _ f => lkF f [], var := [0, 1], res := [], eqs := [] }, keys := [0, 2], bkeys := [.loc 2] }
def S33 : Sig := { args := [.one (.i .i64)], boxes := [], res := [.row (.pair (.int .i64) (.int .u64))], rbox := [], frz := [] }
def L33 : Nat → Option LoopRec := fun _ => none
set_option maxRecDepth 100000 in
theorem run33 : ∀ x, gives F33 L33 f33 S33 x = (fun x => penalty_widen x) x := by
  intro x
  kernel_rfl
theorem fn33 : FnCalls prog 33 (S33.F (fun x => penalty_widen x)) := fn_sig (F := F33) (tbl := L33) func33 (by kernel_rfl) mix (cok_list (l := []) (tabsT rfl rfl) rfl (by simp)) (by kernel_rfl) (by kernel_rfl) (by decide) (fun _ => by kernel_rfl) run33
def C33 : Con := S33.con (by kernel_rfl) (fun x => penalty_widen x)
theorem G33 : Good1 prog (33, C33) := good_of func33 (by kernel_rfl) (by kernel_rfl) fn33
end Go.Proofs.Ytakofkfemgoloaa.ve
/- math/bits.Sub64, without a borrow. -/
namespace Go.Proofs.Ytakofkfemgoloaa.ve
open Go Go.Vs Go.Ve Go.Fn Go.Proofs.Try
def sub64Entry : Array Value → Sem Value := fun args => do
  let (x, y, b) ← Extern.MathBitsCarry.three "Sub64" args
  pure (Extern.MathBitsCarry.pair ((x + Extern.MathBitsCarry.m64 - y - b) % Extern.MathBitsCarry.m64) (if x < y + b then 1 else 0))
theorem run_sub64 {P : Program} (x y b : Nat) (hb : b ≤ 1) (w : World) :
    (sub64Entry #[.int .u64 x, .int .u64 y, .int .u64 b]).run P w =
      .ok (.tuple #[.int .u64 (((x + 18446744073709551616 - y - b) % 18446744073709551616 : Nat) : Int), .int .u64 ((if x < y + b then 1 else 0 : Nat) : Int)]) w := by
  have : b = 0 ∨ b = 1 := by omega
  rcases this with rfl | rfl <;> rfl
def S34 : Sig := { args := [.one (.i .u64), .one (.i .u64), .one (.i .u64)], res := [.one (.i .u64), .one (.i .u64)] }
theorem getD_of {vals : Array Value} {l : List Value} (hs : vals.size = l.length) (h : ∀ i, i < l.length → vals.getD i undef = l.getD i undef) : vals = l.toArray := by
  apply Array.ext
  · simpa using hs
  · intro i h1 h2
    have := h i (by omega)
    simp only [Array.getD_eq_getD_getElem?, Array.getElem?_eq_getElem h1, List.getD_eq_getElem?_getD, Option.getD_some] at this
    rw [List.getElem?_eq_getElem (by omega)] at this
    simpa using this
theorem sub64_ok : CallOK prog 34 (S34.F fun x => bits_Sub64 x.1 x.2.1 x.2.2) := by
  intro args boxes r h w vals β ω Z hsz hok hpl hent
  unfold Sig.F at h
  split at h
  · rename_i z hz
    split at h
    · rename_i y hy
      obtain ⟨x, yy, b⟩ := z
      obtain ⟨h1, h2⟩ := Sig.dec_some S34 (by kernel_rfl) hz
      subst h1 h2
      cases h
      simp only [bits_Sub64] at hy
      split at hy
      · rename_i hb
        obtain ⟨hx, hy1, hy2, rfl⟩ := hb
        cases hy
        have h0 := (hent.args 0).2
        have h1 := (hent.args 1).2
        have h2 := (hent.args 2).2
        have hv : vals = #[.int .u64 x, .int .u64 yy, .int .u64 0] := by
          refine getD_of (l := [.int .u64 x, .int .u64 yy, .int .u64 0]) hsz fun i hi => ?_
          match i, hi with
          | 0, _ => exact h0
          | 1, _ => exact h1
          | 2, _ => exact h2
        obtain ⟨a, rfl⟩ := Int.eq_ofNat_of_zero_le hx
        obtain ⟨c, rfl⟩ := Int.eq_ofNat_of_zero_le hy1
        refine .inr ⟨.tuple #[.int .u64 (((a + 18446744073709551616 - c - 0) % 18446744073709551616 : Nat) : Int), .int .u64 ((if a < c + 0 then 1 else 0 : Nat) : Int)], w, _, _, Z, ?_, exit_scalar hent hok rfl rfl rfl (Nat.le_refl _) (fun _ _ _ => rfl) (K₀ := ctxOf prog 0 w vals β ω Z) (β₀ := β) (Z₀ := Z) (s₀ := fun _ => {}) (a₀ := { tmps := #[], defers := [] }) (w₀ := w) ?_ ?_ rfl rfl⟩
        · subst hv
          rw [run_callFunc_extern func34 (by kernel_rfl) (by kernel_rfl) (by kernel_rfl) (e := sub64Entry) (by kernel_rfl)]
          have := run_sub64 (P := prog) a c 0 (by omega) w
          simp only [Int.natCast_zero] at this ⊢
          rw [this]
          rfl
        · refine ⟨_, rfl, ⟨?_, ?_, trivial⟩⟩
          · simp only [TRel]
            refine ⟨_, rfl, rfl, ?_⟩
            show Value.int _ _ = Value.int _ (((a : Int) + 18446744073709551616 - (c : Int)) % 18446744073709551616)
            congr 1
            omega
          · simp only [TRel]
            refine ⟨_, rfl, rfl, ?_⟩
            show Value.int _ _ = Value.int _ _
            congr 1
            show _ = (if (a : Int) < c then (1 : Int) else 0)
            by_cases hlt : a < c
            · simp [hlt]
            · simp [hlt]
        · rfl
      · cases hy
    · cases h
  · cases h
def C34 : Con := S34.con (by kernel_rfl) (fun x => bits_Sub64 x.1 x.2.1 x.2.2)
theorem G34 : Good1 prog (34, C34) := sub64_ok
end Go.Proofs.Ytakofkfemgoloaa.ve
/- bitext/penalty.aged -/
namespace Go.Proofs.Ytakofkfemgoloaa.ve
open Go Go.Vs Go.Ve Go.Fn Go.Proofs.Try
set_option linter.unusedVariables false
def F23 : VFE := { cfg := { N := 51, T := T, R := R, con := fun _ f => lkF f [(33, C33), (34, C34)], var := [0, 1, 2, 3, 4, 5, 6, 7, 8, 9, 10, 11, 12], res := [6], eqs := [] }, keys := [0, 1, 2, 6, 7, 8, 9, 10, 11, 12], bkeys := [.loc 7, .loc 8, .loc 9] }
def S23 : Sig := { args := [.one (.i .i64), .one (.i .i64), .one (.i .i64)], boxes := [], res := [.one .b], rbox := [], frz := [] }
def L23 : Nat → Option LoopRec := fun _ => none
set_option maxRecDepth 100000 in
theorem run23 : ∀ x, gives F23 L23 f23 S23 x = (fun x => penalty_aged x.1 x.2.1 x.2.2) x := by
  intro x
  kernel_rfl
theorem fn23 : FnCalls prog 23 (S23.F (fun x => penalty_aged x.1 x.2.1 x.2.2)) := fn_sig (F := F23) (tbl := L23) func23 (by kernel_rfl) mix (cok_list (l := [(33, C33), (34, C34)]) (tabsT rfl rfl) rfl (List.forall_mem_cons.2 ⟨G33, List.forall_mem_cons.2 ⟨G34, by simp⟩⟩)) (by kernel_rfl) (by kernel_rfl) (by decide) (fun _ => by kernel_rfl) run23
def C23 : Con := S23.con (by kernel_rfl) (fun x => penalty_aged x.1 x.2.1 x.2.2)
theorem G23 : Good1 prog (23, C23) := good_of func23 (by kernel_rfl) (by kernel_rfl) fn23
end Go.Proofs.Ytakofkfemgoloaa.ve
/- bitext/penalty.Applies -/
namespace Go.Proofs.Ytakofkfemgoloaa.ve
open Go Go.Vs Go.Ve Go.Fn Go.Proofs.Try
set_option linter.unusedVariables false
def F13 : VFE := { cfg := { N := 52, T := T, R := R, con := fun _ f => lkF f [(23, C23)], var := [0, 1, 2, 3, 4, 5, 6], res := [6], eqs := [] }, keys := [0, 1, 2, 3, 4, 6, 7, 18], bkeys := [.loc 3, .loc 4] }
def S13 : Sig := { args := [.row (.pair (.int .i64) (.pair .str (.pair .str (.pair (.int .i64) (.int .i64))))), .row (.pair (.sl (.pair (.int .i64) (.pair .str (.int .i64)))) (.pair (.sl (.pair (.int .i64) (.pair .str (.int .i64)))) (.pair .str (.pair .str (.pair .str (.pair .str (.pair (.int .i64) (.int .i64)))))))), .one (.i .i64)], boxes := [], res := [.one .b], rbox := [], frz := [] }
def L13 : Nat → Option LoopRec := fun _ => none
set_option maxRecDepth 100000 in
theorem run13 : ∀ x, gives F13 L13 f13 S13 x = (fun x => penalty_Applies x.1 x.2.1 x.2.2) x := by
  intro x
  kernel_rfl
theorem fn13 : FnCalls prog 13 (S13.F (fun x => penalty_Applies x.1 x.2.1 x.2.2)) := fn_sig (F := F13) (tbl := L13) func13 (by kernel_rfl) mix (cok_list (l := [(23, C23)]) (tabsT rfl rfl) rfl (List.forall_mem_cons.2 ⟨G23, by simp⟩)) (by kernel_rfl) (by kernel_rfl) (by decide) (fun _ => by kernel_rfl) run13
def C13 : Con := S13.con (by kernel_rfl) (fun x => penalty_Applies x.1 x.2.1 x.2.2)
theorem G13 : Good1 prog (13, C13) := good_of func13 (by kernel_rfl) (by kernel_rfl) fn13
end Go.Proofs.Ytakofkfemgoloaa.ve
/- bitext/penalty.Points -/
namespace Go.Proofs.Ytakofkfemgoloaa.ve
open Go Go.Vs Go.Ve Go.Fn Go.Proofs.Try
set_option linter.unusedVariables false
def F15 : VFE := { cfg := { N := 33, T := T, R := R, con := fun _ f => lkF f [(13, C13)], var := [0, 1, 2, 3, 4, 5, 6, 7, 8, 9], res := [6], eqs := [] }, keys := [0, 1, 2, 4, 6, 7, 9, 10, 11, 12, 13, 24], bkeys := [.loc 4, .loc 9] }
def S15 : Sig := { args := [.one (.n .data (.pair (.int .i64) (.pair .str (.pair .str (.pair (.int .i64) (.int .i64)))))), .row (.pair (.sl (.pair (.int .i64) (.pair .str (.int .i64)))) (.pair (.sl (.pair (.int .i64) (.pair .str (.int .i64)))) (.pair .str (.pair .str (.pair .str (.pair .str (.pair (.int .i64) (.int .i64)))))))), .one (.i .i64)], boxes := [], res := [.one (.i .i64)], rbox := [], frz := [] }
def L15 : Nat → Option LoopRec := fun n => match n with
  | 0 => some { head := { live := [2, 4, 7, 10, 11, 12], lbox := [(.loc 4)], vs := [.slot 7 (.i .i64), .slot 12 (.i .i64)] }, exits := [(.exit 0, { live := [7], lbox := [], vs := [.slot 7 (.i .i64)] })] }
  | _ => none
set_option maxRecDepth 100000 in
theorem run15 : ∀ x, gives F15 L15 f15 S15 x = (fun x => penalty_Points x.1 x.2.1 x.2.2) x := by
  intro x
  kernel_rfl
theorem fn15 : FnCalls prog 15 (S15.F (fun x => penalty_Points x.1 x.2.1 x.2.2)) := fn_sig (F := F15) (tbl := L15) func15 (by kernel_rfl) mix (cok_list (l := [(13, C13)]) (tabsT rfl rfl) rfl (List.forall_mem_cons.2 ⟨G13, by simp⟩)) (by kernel_rfl) (by kernel_rfl) (by decide) (fun _ => by kernel_rfl) run15
def C15 : Con := S15.con (by kernel_rfl) (fun x => penalty_Points x.1 x.2.1 x.2.2)
theorem G15 : Good1 prog (15, C15) := good_of func15 (by kernel_rfl) (by kernel_rfl) fn15
end Go.Proofs.Ytakofkfemgoloaa.ve
/- bitext/bitextlaw17.known -/
namespace Go.Proofs.Ytakofkfemgoloaa.ve
open Go Go.Vs Go.Ve Go.Fn Go.Proofs.Try
set_option linter.unusedVariables false
def F9 : VFE := { cfg := { N := 22, T := T, R := R, con := fun _ f => lkF f [(13, C13), (15, C15)], var := [0, 1, 2], res := [0], eqs := [] }, keys := [0, 1, 2], bkeys := [.loc 1, .loc 2] }
def S9 : Sig := { args := [], boxes := [], res := [.one .b], rbox := [], frz := [] }
def L9 : Nat → Option LoopRec := fun _ => none
set_option maxRecDepth 100000 in
theorem run9 : ∀ x, gives F9 L9 f9 S9 x = (fun _ => bitextlaw17_known) x := by
  intro x
  kernel_rfl
theorem fn9 : FnCalls prog 9 (S9.F (fun _ => bitextlaw17_known)) := fn_sig (F := F9) (tbl := L9) func9 (by kernel_rfl) mix (cok_list (l := [(13, C13), (15, C15)]) (tabsT rfl rfl) rfl (List.forall_mem_cons.2 ⟨G13, List.forall_mem_cons.2 ⟨G15, by simp⟩⟩)) (by kernel_rfl) (by kernel_rfl) (by decide) (fun _ => by kernel_rfl) run9
def C9 : Con := S9.con (by kernel_rfl) (fun _ => bitextlaw17_known)
theorem G9 : Good1 prog (9, C9) := good_of func9 (by kernel_rfl) (by kernel_rfl) fn9
end Go.Proofs.Ytakofkfemgoloaa.ve
/- bitext/bitextmake.Place -/
namespace Go.Proofs.Ytakofkfemgoloaa.ve
open Go Go.Vs Go.Ve Go.Fn Go.Proofs.Try
set_option linter.unusedVariables false
def F12 : VFE := { cfg := { N := 14, T := T, R := R, con := fun _ f => lkF f [], var := [0, 1, 2, 3, 4], res := [4], eqs := [] }, keys := [0, 1, 4, 9], bkeys := [] }
def S12 : Sig := { args := [.one (.i .i64), .one (.i .i64)], boxes := [], res := [.one (.i .i64)], rbox := [], frz := [] }
def L12 : Nat → Option LoopRec := fun _ => none
set_option maxRecDepth 100000 in
theorem run12 : ∀ x, gives F12 L12 f12 S12 x = (fun x => bitextmake_Place x.1 x.2) x := by
  intro x
  kernel_rfl
theorem fn12 : FnCalls prog 12 (S12.F (fun x => bitextmake_Place x.1 x.2)) := fn_sig (F := F12) (tbl := L12) func12 (by kernel_rfl) mix (cok_list (l := []) (tabsT rfl rfl) rfl (by simp)) (by kernel_rfl) (by kernel_rfl) (by decide) (fun _ => by kernel_rfl) run12
def C12 : Con := S12.con (by kernel_rfl) (fun x => bitextmake_Place x.1 x.2)
theorem G12 : Good1 prog (12, C12) := good_of func12 (by kernel_rfl) (by kernel_rfl) fn12
end Go.Proofs.Ytakofkfemgoloaa.ve
/- (*bitext/bitextmake.Numbers).Next -/
namespace Go.Proofs.Ytakofkfemgoloaa.ve
open Go Go.Vs Go.Ve Go.Fn Go.Proofs.Try
set_option linter.unusedVariables false
def F19 : VFE := { cfg := { N := 36, T := T, R := R, con := fun _ f => lkF f [(12, C12)], var := [0, 1, 2, 3, 4, 5], res := [4], eqs := [] }, keys := [0, 1, 4, 5, 15], bkeys := [.inb 0] }
def S19 : Sig := { args := [.ptr (.inb 0) 0, .one (.i .i64)], boxes := [.row (.pair (.sl (.int .i64)) (.int .i64))], res := [.one (.i .i64)], rbox := [[none, some (.i .i64)]], frz := [] }
def L19 : Nat → Option LoopRec := fun _ => none
set_option maxRecDepth 100000 in
theorem run19 : ∀ x, gives F19 L19 f19 S19 x = (fun x => bitextmake_Numbers_Next x.1 x.2) x := by
  intro x
  kernel_rfl
theorem fn19 : FnCalls prog 19 (S19.F (fun x => bitextmake_Numbers_Next x.1 x.2)) := fn_sig (F := F19) (tbl := L19) func19 (by kernel_rfl) mix (cok_list (l := [(12, C12)]) (tabsT rfl rfl) rfl (List.forall_mem_cons.2 ⟨G12, by simp⟩)) (by kernel_rfl) (by kernel_rfl) (by decide) (fun _ => by kernel_rfl) run19
def C19 : Con := S19.con (by kernel_rfl) (fun x => bitextmake_Numbers_Next x.1 x.2)
theorem G19 : Good1 prog (19, C19) := good_of func19 (by kernel_rfl) (by kernel_rfl) fn19
end Go.Proofs.Ytakofkfemgoloaa.ve
/- bitext/bitextmake.Penalties -/
namespace Go.Proofs.Ytakofkfemgoloaa.ve
open Go Go.Vs Go.Ve Go.Fn Go.Proofs.Try
set_option linter.unusedVariables false
def F10 : VFE := { cfg := { N := 39, T := T, R := R, con := fun _ f => lkF f [(19, C19)], var := [0, 1, 2, 3, 4, 5, 6], res := [4], eqs := [] }, keys := [0, 1, 4, 5, 6, 12], bkeys := [.inb 0] }
def S10 : Sig := { args := [.ptr (.inb 0) 0, .one (.i .i64)], boxes := [.row (.pair (.sl (.int .i64)) (.int .i64))], res := [.one (.n .own (.pair (.int .i64) (.pair .str (.pair .str (.pair (.int .i64) (.int .i64))))))], rbox := [[none, some (.i .i64)]], frz := [] }
def L10 : Nat → Option LoopRec := fun n => match n with
  | 0 => some { head := { live := [0, 5, 6], lbox := [(.inb 0)], vs := [.slot 5 (.n .own (.pair (.int .i64) (.pair .str (.pair .str (.pair (.int .i64) (.int .i64)))))), .slot 6 (.i .i64), .cell (.inb 0) 1 (.i .i64)] }, exits := [(.exit 0, { live := [5], lbox := [(.inb 0)], vs := [.slot 5 (.n .own (.pair (.int .i64) (.pair .str (.pair .str (.pair (.int .i64) (.int .i64)))))), .cell (.inb 0) 1 (.i .i64)] })] }
  | _ => none
set_option maxRecDepth 100000 in
theorem run10 : ∀ x, gives F10 L10 f10 S10 x = (fun x => bitextmake_Penalties x.1 x.2) x := by
  intro x
  kernel_rfl
theorem fn10 : FnCalls prog 10 (S10.F (fun x => bitextmake_Penalties x.1 x.2)) := fn_sig (F := F10) (tbl := L10) func10 (by kernel_rfl) mix (cok_list (l := [(19, C19)]) (tabsT rfl rfl) rfl (List.forall_mem_cons.2 ⟨G19, by simp⟩)) (by kernel_rfl) (by kernel_rfl) (by decide) (fun _ => by kernel_rfl) run10
def C10 : Con := S10.con (by kernel_rfl) (fun x => bitextmake_Penalties x.1 x.2)
theorem G10 : Good1 prog (10, C10) := good_of func10 (by kernel_rfl) (by kernel_rfl) fn10
end Go.Proofs.Ytakofkfemgoloaa.ve
/- bitext/class.IsName -/
namespace Go.Proofs.Ytakofkfemgoloaa.ve
open Go Go.Vs Go.Ve Go.Fn Go.Proofs.Try
set_option linter.unusedVariables false
def F25 : VFE := { cfg := { N := 51, T := T, R := R, con := fun _ f => lkF f [], var := [0, 1, 2, 3, 4], res := [2], eqs := [] }, keys := [0, 2, 3, 4, 22, 26, 50], bkeys := [] }
def S25 : Sig := { args := [.one .s], boxes := [], res := [.one .b], rbox := [], frz := [] }
def L25 : Nat → Option LoopRec := fun n => match n with
  | 0 => some { head := { live := [0, 3], lbox := [], vs := [.slot 3 (.i .i64)] }, exits := [(.ret, { live := [2], lbox := [], vs := [.slot 2 .b] }), (.exit 0, { live := [], lbox := [], vs := [] })] }
  | _ => none
set_option maxRecDepth 100000 in
theorem run25 : ∀ x, gives F25 L25 f25 S25 x = (fun x => class_IsName x) x := by
  intro x
  kernel_rfl
theorem fn25 : FnCalls prog 25 (S25.F (fun x => class_IsName x)) := fn_sig (F := F25) (tbl := L25) func25 (by kernel_rfl) mix (cok_list (l := []) (tabsT rfl rfl) rfl (by simp)) (by kernel_rfl) (by kernel_rfl) (by decide) (fun _ => by kernel_rfl) run25
def C25 : Con := S25.con (by kernel_rfl) (fun x => class_IsName x)
theorem G25 : Good1 prog (25, C25) := good_of func25 (by kernel_rfl) (by kernel_rfl) fn25
end Go.Proofs.Ytakofkfemgoloaa.ve
/- bitext/penalty.Validate -/
namespace Go.Proofs.Ytakofkfemgoloaa.ve
open Go Go.Vs Go.Ve Go.Fn Go.Proofs.Try
set_option linter.unusedVariables false
def F17 : VFE := { cfg := { N := 63, T := T, R := R, con := fun _ f => lkF f [(25, C25)], var := [0, 1, 2, 3, 4], res := [2], eqs := [] }, keys := [0, 2, 4, 7, 8, 9, 10, 11, 41, 61], bkeys := [.loc 4] }
def S17 : Sig := { args := [.one (.n .data (.pair (.int .i64) (.pair .str (.pair .str (.pair (.int .i64) (.int .i64))))))], boxes := [], res := [.one (.i .i64)], rbox := [], frz := [] }
def L17 : Nat → Option LoopRec := fun n => match n with
  | 0 => some { head := { live := [8, 9, 10], lbox := [], vs := [.slot 10 (.i .i64)] }, exits := [(.ret, { live := [2], lbox := [], vs := [.slot 2 (.i .i64)] }), (.exit 0, { live := [], lbox := [], vs := [] })] }
  | _ => none
set_option maxRecDepth 100000 in
theorem run17 : ∀ x, gives F17 L17 f17 S17 x = (fun x => penalty_Validate x) x := by
  intro x
  kernel_rfl
theorem fn17 : FnCalls prog 17 (S17.F (fun x => penalty_Validate x)) := fn_sig (F := F17) (tbl := L17) func17 (by kernel_rfl) mix (cok_list (l := [(25, C25)]) (tabsT rfl rfl) rfl (List.forall_mem_cons.2 ⟨G25, by simp⟩)) (by kernel_rfl) (by kernel_rfl) (by decide) (fun _ => by kernel_rfl) run17
def C17 : Con := S17.con (by kernel_rfl) (fun x => penalty_Validate x)
theorem G17 : Good1 prog (17, C17) := good_of func17 (by kernel_rfl) (by kernel_rfl) fn17
end Go.Proofs.Ytakofkfemgoloaa.ve
/- bitext/bitextref1.IsName -/
namespace Go.Proofs.Ytakofkfemgoloaa.ve
open Go Go.Vs Go.Ve Go.Fn Go.Proofs.Try
set_option linter.unusedVariables false
def F35 : VFE := { cfg := { N := 44, T := T, R := R, con := fun _ f => lkF f [], var := [0, 1, 2, 3, 4], res := [2], eqs := [] }, keys := [0, 2, 3, 4, 12, 16, 43], bkeys := [] }
def S35 : Sig := { args := [.one .s], boxes := [], res := [.one .b], rbox := [], frz := [] }
def L35 : Nat → Option LoopRec := fun n => match n with
  | 0 => some { head := { live := [0, 3], lbox := [], vs := [.slot 3 (.i .i64)] }, exits := [(.ret, { live := [2], lbox := [], vs := [.slot 2 .b] }), (.exit 0, { live := [], lbox := [], vs := [] })] }
  | _ => none
set_option maxRecDepth 100000 in
theorem run35 : ∀ x, gives F35 L35 f35 S35 x = (fun x => bitextref1_IsName x) x := by
  intro x
  kernel_rfl
theorem fn35 : FnCalls prog 35 (S35.F (fun x => bitextref1_IsName x)) := fn_sig (F := F35) (tbl := L35) func35 (by kernel_rfl) mix (cok_list (l := []) (tabsT rfl rfl) rfl (by simp)) (by kernel_rfl) (by kernel_rfl) (by decide) (fun _ => by kernel_rfl) run35
def C35 : Con := S35.con (by kernel_rfl) (fun x => bitextref1_IsName x)
theorem G35 : Good1 prog (35, C35) := good_of func35 (by kernel_rfl) (by kernel_rfl) fn35
end Go.Proofs.Ytakofkfemgoloaa.ve
/- bitext/bitextref16.named -/
namespace Go.Proofs.Ytakofkfemgoloaa.ve
open Go Go.Vs Go.Ve Go.Fn Go.Proofs.Try
set_option linter.unusedVariables false
def F26 : VFE := { cfg := { N := 9, T := T, R := R, con := fun _ f => lkF f [(35, C35)], var := [0, 1, 2], res := [2], eqs := [] }, keys := [0, 2], bkeys := [] }
def S26 : Sig := { args := [.one .s], boxes := [], res := [.one .b], rbox := [], frz := [] }
def L26 : Nat → Option LoopRec := fun _ => none
set_option maxRecDepth 100000 in
theorem run26 : ∀ x, gives F26 L26 f26 S26 x = (fun x => bitextref16_named x) x := by
  intro x
  kernel_rfl
theorem fn26 : FnCalls prog 26 (S26.F (fun x => bitextref16_named x)) := fn_sig (F := F26) (tbl := L26) func26 (by kernel_rfl) mix (cok_list (l := [(35, C35)]) (tabsT rfl rfl) rfl (List.forall_mem_cons.2 ⟨G35, by simp⟩)) (by kernel_rfl) (by kernel_rfl) (by decide) (fun _ => by kernel_rfl) run26
def C26 : Con := S26.con (by kernel_rfl) (fun x => bitextref16_named x)
theorem G26 : Good1 prog (26, C26) := good_of func26 (by kernel_rfl) (by kernel_rfl) fn26
end Go.Proofs.Ytakofkfemgoloaa.ve
/- bitext/bitextref16.ValidatePenalties -/
namespace Go.Proofs.Ytakofkfemgoloaa.ve
open Go Go.Vs Go.Ve Go.Fn Go.Proofs.Try
set_option linter.unusedVariables false
def F18 : VFE := { cfg := { N := 53, T := T, R := R, con := fun _ f => lkF f [(26, C26)], var := [0, 1, 2, 3, 4], res := [2], eqs := [] }, keys := [0, 2, 4, 7, 8, 9, 10, 11, 41, 51], bkeys := [.loc 4] }
def S18 : Sig := { args := [.one (.n .data (.pair (.int .i64) (.pair .str (.pair .str (.pair (.int .i64) (.int .i64))))))], boxes := [], res := [.one (.i .i64)], rbox := [], frz := [] }
def L18 : Nat → Option LoopRec := fun n => match n with
  | 0 => some { head := { live := [8, 9, 10], lbox := [], vs := [.slot 10 (.i .i64)] }, exits := [(.ret, { live := [2], lbox := [], vs := [.slot 2 (.i .i64)] }), (.exit 0, { live := [], lbox := [], vs := [] })] }
  | _ => none
set_option maxRecDepth 100000 in
theorem run18 : ∀ x, gives F18 L18 f18 S18 x = (fun x => bitextref16_ValidatePenalties x) x := by
  intro x
  kernel_rfl
theorem fn18 : FnCalls prog 18 (S18.F (fun x => bitextref16_ValidatePenalties x)) := fn_sig (F := F18) (tbl := L18) func18 (by kernel_rfl) mix (cok_list (l := [(26, C26)]) (tabsT rfl rfl) rfl (List.forall_mem_cons.2 ⟨G26, by simp⟩)) (by kernel_rfl) (by kernel_rfl) (by decide) (fun _ => by kernel_rfl) run18
def C18 : Con := S18.con (by kernel_rfl) (fun x => bitextref16_ValidatePenalties x)
theorem G18 : Good1 prog (18, C18) := good_of func18 (by kernel_rfl) (by kernel_rfl) fn18
end Go.Proofs.Ytakofkfemgoloaa.ve
/- bitext/penalty.Validate -/
namespace Go.Proofs.Ytakofkfemgoloaa.ve
open Go Go.Vs Go.Ve Go.Fn Go.Proofs.Try
set_option linter.unusedVariables false
def F17o0 : VFE := { cfg := { N := 63, T := T, R := R, con := fun _ f => lkF f [(25, C25)], var := [0, 1, 2, 3, 4], res := [2], eqs := [] }, keys := [0, 2, 4, 7, 8, 9, 10, 11, 41, 61], bkeys := [.loc 4] }
def S17o0 : Sig := { args := [.one (.n .own (.pair (.int .i64) (.pair .str (.pair .str (.pair (.int .i64) (.int .i64))))))], boxes := [], res := [.one (.i .i64)], rbox := [], frz := [] }
def L17o0 : Nat → Option LoopRec := fun n => match n with
  | 0 => some { head := { live := [8, 9, 10], lbox := [], vs := [.slot 10 (.i .i64)] }, exits := [(.ret, { live := [2], lbox := [], vs := [.slot 2 (.i .i64)] }), (.exit 0, { live := [], lbox := [], vs := [] })] }
  | _ => none
set_option maxRecDepth 100000 in
theorem run17o0 : ∀ x, gives F17o0 L17o0 f17 S17o0 x = (fun x => penalty_Validate_v2 x) x := by
  intro x
  kernel_rfl
theorem fn17o0 : FnCalls prog 17 (S17o0.F (fun x => penalty_Validate_v2 x)) := fn_sig (F := F17o0) (tbl := L17o0) func17 (by kernel_rfl) mix (cok_list (l := [(25, C25)]) (tabsT rfl rfl) rfl (List.forall_mem_cons.2 ⟨G25, by simp⟩)) (by kernel_rfl) (by kernel_rfl) (by decide) (fun _ => by kernel_rfl) run17o0
def C17o0 : Con := S17o0.con (by kernel_rfl) (fun x => penalty_Validate_v2 x)
theorem G17o0 : Good1 prog (17, C17o0) := good_of func17 (by kernel_rfl) (by kernel_rfl) fn17o0
end Go.Proofs.Ytakofkfemgoloaa.ve
/- bitext/bitextref16.ValidatePenalties -/
namespace Go.Proofs.Ytakofkfemgoloaa.ve
open Go Go.Vs Go.Ve Go.Fn Go.Proofs.Try
set_option linter.unusedVariables false
def F18o0 : VFE := { cfg := { N := 53, T := T, R := R, con := fun _ f => lkF f [(26, C26)], var := [0, 1, 2, 3, 4], res := [2], eqs := [] }, keys := [0, 2, 4, 7, 8, 9, 10, 11, 41, 51], bkeys := [.loc 4] }
def S18o0 : Sig := { args := [.one (.n .own (.pair (.int .i64) (.pair .str (.pair .str (.pair (.int .i64) (.int .i64))))))], boxes := [], res := [.one (.i .i64)], rbox := [], frz := [] }
def L18o0 : Nat → Option LoopRec := fun n => match n with
  | 0 => some { head := { live := [8, 9, 10], lbox := [], vs := [.slot 10 (.i .i64)] }, exits := [(.ret, { live := [2], lbox := [], vs := [.slot 2 (.i .i64)] }), (.exit 0, { live := [], lbox := [], vs := [] })] }
  | _ => none
set_option maxRecDepth 100000 in
theorem run18o0 : ∀ x, gives F18o0 L18o0 f18 S18o0 x = (fun x => bitextref16_ValidatePenalties_v2 x) x := by
  intro x
  kernel_rfl
theorem fn18o0 : FnCalls prog 18 (S18o0.F (fun x => bitextref16_ValidatePenalties_v2 x)) := fn_sig (F := F18o0) (tbl := L18o0) func18 (by kernel_rfl) mix (cok_list (l := [(26, C26)]) (tabsT rfl rfl) rfl (List.forall_mem_cons.2 ⟨G26, by simp⟩)) (by kernel_rfl) (by kernel_rfl) (by decide) (fun _ => by kernel_rfl) run18o0
def C18o0 : Con := S18o0.con (by kernel_rfl) (fun x => bitextref16_ValidatePenalties_v2 x)
theorem G18o0 : Good1 prog (18, C18o0) := good_of func18 (by kernel_rfl) (by kernel_rfl) fn18o0
end Go.Proofs.Ytakofkfemgoloaa.ve
/- bitext/bitextlaw17.PenaltyValidates -/
namespace Go.Proofs.Ytakofkfemgoloaa.ve
open Go Go.Vs Go.Ve Go.Fn Go.Proofs.Try
set_option linter.unusedVariables false
def F7 : VFE := { cfg := { N := 68, T := T, R := R, con := fun t f => lkS t f [(8, C8), (9, C9), (10, C10), (12, C12), (17, C17), (18, C18)] [(53, 17, C17o0), (55, 18, C18o0), (60, 17, C17o0), (62, 18, C18o0)], var := [0, 1, 2, 3, 8, 9, 10], res := [8], eqs := [] }, keys := [0, 1, 2, 3, 7, 8, 9, 10, 28, 38], bkeys := [.loc 7, .loc 32] }
def S7 : Sig := { args := [.one (.n .data (.pair (.int .i64) (.pair .str (.pair .str (.pair (.int .i64) (.int .i64)))))), .one (.n .data (.int .i64)), .one (.i .i64), .row (.pair (.int .i64) (.pair .str (.pair .str (.pair (.int .i64) (.int .i64)))))], boxes := [], res := [.one .b], rbox := [], frz := [] }
def L7 : Nat → Option LoopRec := fun _ => none
set_option maxRecDepth 100000 in
theorem run7 : ∀ x, gives F7 L7 f7 S7 x = (fun x => bitextlaw17_PenaltyValidates x.1 x.2.1 x.2.2.1 x.2.2.2) x := by
  intro x
  kernel_rfl
theorem fn7 : FnCalls prog 7 (S7.F (fun x => bitextlaw17_PenaltyValidates x.1 x.2.1 x.2.2.1 x.2.2.2)) := fn_sig (F := F7) (tbl := L7) func7 (by kernel_rfl) mix (cok_sites (l := [(8, C8), (9, C9), (10, C10), (12, C12), (17, C17), (18, C18)]) (s := [(53, 17, C17o0), (55, 18, C18o0), (60, 17, C17o0), (62, 18, C18o0)]) (tabsT rfl rfl) rfl (List.forall_mem_cons.2 ⟨G8, List.forall_mem_cons.2 ⟨G9, List.forall_mem_cons.2 ⟨G10, List.forall_mem_cons.2 ⟨G12, List.forall_mem_cons.2 ⟨G17, List.forall_mem_cons.2 ⟨G18, by simp⟩⟩⟩⟩⟩⟩) (List.forall_mem_cons.2 ⟨G17o0, List.forall_mem_cons.2 ⟨G18o0, List.forall_mem_cons.2 ⟨G17o0, List.forall_mem_cons.2 ⟨G18o0, by simp⟩⟩⟩⟩)) (by kernel_rfl) (by kernel_rfl) (by decide) (fun _ => by kernel_rfl) run7
def C7 : Con := S7.con (by kernel_rfl) (fun x => bitextlaw17_PenaltyValidates x.1 x.2.1 x.2.2.1 x.2.2.2)
theorem G7 : Good1 prog (7, C7) := good_of func7 (by kernel_rfl) (by kernel_rfl) fn7
end Go.Proofs.Ytakofkfemgoloaa.ve
/- The law PenaltyValidates holds. -/
namespace Go.Proofs.Ytakofkfemgoloaa.penaltyValidates
open Go Go.ChangeShapes Go.WideShapes Go.ChangeAt Go.RowKit Go.Vs Go.Ve Go.Fn Go.Proofs.Ytakofkfemgoloaa.ve
set_option linter.unusedVariables false
theorem own : ownKnob Try.prog.godebug = none := by kernel_rfl
def B (H : Type) : Bulk H where
  one := Rows.uptoBulk
  all := Rows.uptoBulkAll
  str := fun _ => by simp only [Rows.uptoBulk]
  slice := fun _ _ => by simp only [Rows.uptoBulk]
  agg := fun _ => by simp only [Rows.uptoBulk]
  pos := fun d => by
    cases d with
    | lit l => cases l <;> simp only [Rows.uptoBulk] <;> omega
    | _ => simp only [Rows.uptoBulk] <;> omega
  nil := by simp only [Rows.uptoBulkAll]
  cons := fun _ _ => by simp only [Rows.uptoBulkAll]
theorem contract (H : Type) (enc : TypeId × Value → H) (W : World) (base : Nat) (args : Array Value) (ds gs : List (DataW H)) (before : List MemPlace)
    (hval : ∀ (j : Nat) t v, Try.f7.params[j]? = some t → args[j]? = some v → Value.okWide Try.prog W .any base t v)
    (hW : DataW.Whole enc Try.prog Try.f7.params.toList Rows.penaltyValidatesSpec.vars false W args.toList ds gs before) (hk : Rows.uptoSmall H (ds ++ gs) = true) :
    Calls Try.prog 7 args W fun e W' => ∃ v, e = .returned v ∧ Rows.penaltyValidatesSpec.post enc Try.prog Try.f7 false true false false W args v W' :=
  law_typed (cfg := F7.cfg.c) (l := S7.args) (n := 20) (m := 1048576) (ts := Try.f7.params.toList) (sp := Rows.penaltyValidatesSpec) (by kernel_rfl) fn7 (tabsT rfl rfl) rfl rfl (tb := 4) (by kernel_rfl) (by kernel_rfl)
    (by kernel_rfl) (by
      intro t ht
      exact List.all_eq_true.1 (by kernel_rfl : Try.f7.params.toList.all (fun t => plainT F7.cfg.c 20 t) = true) t ht) (by kernel_rfl)
    (by
      intro t ht
      have := List.all_eq_true.1 (by kernel_rfl : Try.f7.params.toList.all (fun t => Try.prog.readableRec t && Nat.blt t Try.prog.types.size) = true) t ht
      rw [Bool.and_eq_true, Nat.blt_eq] at this
      exact this) (B H) (Nat.le_trans (bulk_append (B H) ds gs) (of_decide_eq_true hk))
    (fun x hw hb => ⟨x, rfl, validates_holds x.1 x.2.1 x.2.2.1 x.2.2.2 (Nat.le_trans (len_sl (bulk_hd hb)) (by decide)) (Wf_ints hw.2.1) hw.2.2.1⟩)
    (fun ds h => by
      match ds, h with
      | [d1, d2, d3, d4], _ => rfl)
    hval hW
set_option maxRecDepth 100000 in
theorem lifted (os : Os) (started : os.Started) (H : Type) (enc : TypeId × Value → H) (F : Stop.Interp) :
    ReturnsInHanded {} Try.checked os 7 .any ((Rows.OpenSpec.upto Rows.penaltyValidatesSpec).pre6 enc Try.prog Try.f7 Rows.penaltyValidatesUptoRow.domain false) (((Rows.OpenSpec.upto Rows.penaltyValidatesSpec).at F).post enc Try.prog Try.f7 false true false false) := by
  refine returnsInHanded_of_cond (C := Try.checked) (s := Rows.OpenSpec.upto Rows.penaltyValidatesSpec) (k := Rows.uptoSmall) rfl own started (by kernel_rfl) Try.func7
    (OpenSpec.witness (enc := enc) (C := Try.checked) (s := Rows.OpenSpec.upto Rows.penaltyValidatesSpec) (k := Rows.uptoSmall) rfl false ⟨#[], #[.slice none 0 0, .slice none 0 0, .int .i64 0, .agg #[.int .i64 0, .string ⟨#[]⟩, .string ⟨#[]⟩, .int .i64 0, .int .i64 0]], []⟩ 8 (by kernel_rfl) (by kernel_rfl) (by kernel_rfl)
      (x := ([.nil, .nil, .lit (.int .i64 0), .agg [.lit (.int .i64 0), .lit (.string []), .lit (.string []), .lit (.int .i64 0), .lit (.int .i64 0)]], [], [])) (by kernel_rfl) rfl (by kernel_rfl)) ?_
  intro W base args ds gs before hval hW _ hk _
  exact contract H enc W base args ds gs before hval hW hk
theorem over : Rows.penaltyValidatesUptoRow.holds Try.pinned (Rows.OpenSpec.upto Rows.penaltyValidatesSpec) :=
  OpenClaim.holds_of_cond 7 Try.f7 rfl rfl rfl rfl rfl rfl rfl ⟨rfl, rfl, rfl, rfl, rfl⟩ rfl rfl rfl rfl rfl (by kernel_rfl) Try.func7 (by kernel_rfl)
    (of_decide_eq_true (by kernel_rfl)) (by unfold Func.isWrapper; first | (rw [if_pos (by decide +kernel)]; kernel_rfl) | (rw [if_neg (by decide +kernel)]; exact ⟨rfl, rfl⟩))
    (fun os started H enc _ F => lifted os started H enc F)
theorem proved : Rows.PenaltyValidatesUptoSaid :=
  over
end Go.Proofs.Ytakofkfemgoloaa.penaltyValidates
#print axioms Go.Proofs.Ytakofkfemgoloaa.penaltyValidates.proved
