/- The statement PenaltyMattersUptoSaid of the given program is proved here: for every input whose bulk is at most the bound of its row, the law returns true and changes nothing. Part 6 of 6. -/
import Derived.Test.YtakofkfemgoloaaChecked
import Derived.KernelRfl
import Derived.Laws.Externs
import Derived.Test.YtakofkfemgoloaaRows
import Derived.JoinedCond
import Derived.Test.YtakofkfemgoloaaV5
/- The seat's types. -/
namespace Go.Proofs.Ytakofkfemgoloaa.ve
open Go Go.Vs Go.Ve Go.Fn Go.Proofs.Try
def T : List (TypeId × TI) := [(2, ⟨1, 8, .int .i64, (some [.int .i64 0])⟩),
  (3, ⟨1, 8, .int .i64, (some [.int .i64 0])⟩),
  (4, ⟨1, 1, .bool, (some [.bool false])⟩),
  (5, ⟨1, 1, .int .u8, (some [.int .u8 0])⟩),
  (9, ⟨1, 16, .str, (some [.str []])⟩),
  (22, ⟨1, 24, .slice 37, (some [.nil])⟩),
  (23, ⟨1, 24, .slice 50, (some [.nil])⟩),
  (25, ⟨8, 128, .struct [(0, 23), (1, 23), (2, 9), (3, 9), (4, 9), (5, 9), (6, 3), (7, 3)], (some [.nil, .nil, .str [], .str [], .str [], .str [], .int .i64 0, .int .i64 0])⟩),
  (26, ⟨1, 24, .slice 3, (some [.nil])⟩),
  (30, ⟨1, 8, .ptr 32, (some [.nul .ptr])⟩),
  (32, ⟨2, 32, .struct [(0, 26), (1, 3)], (some [.nil, .int .i64 0])⟩),
  (37, ⟨5, 56, .struct [(0, 3), (1, 9), (2, 9), (3, 3), (4, 3)], (some [.int .i64 0, .str [], .str [], .int .i64 0, .int .i64 0])⟩),
  (43, ⟨1, 8, .int .i64, (some [.int .i64 0])⟩),
  (47, ⟨1, 24, .slice 9, (some [.nil])⟩),
  (50, ⟨3, 32, .struct [(0, 3), (1, 9), (2, 3)], (some [.int .i64 0, .str [], .int .i64 0])⟩),
  (62, ⟨1, 8, .int .u64, (some [.int .u64 0])⟩),
  (64, ⟨2, 16, .struct [(0, 2), (1, 62)], (some [.int .i64 0, .int .u64 0])⟩)]
def R : List (TypeId × Ty) := [(2, (.int .i64)),
  (3, (.int .i64)),
  (4, .bool),
  (5, (.int .u8)),
  (9, .str),
  (22, (.sl (.pair (.int .i64) (.pair .str (.pair .str (.pair (.int .i64) (.int .i64))))))),
  (23, (.sl (.pair (.int .i64) (.pair .str (.int .i64))))),
  (25, (.pair (.sl (.pair (.int .i64) (.pair .str (.int .i64)))) (.pair (.sl (.pair (.int .i64) (.pair .str (.int .i64)))) (.pair .str (.pair .str (.pair .str (.pair .str (.pair (.int .i64) (.int .i64))))))))),
  (26, (.sl (.int .i64))),
  (32, (.pair (.sl (.int .i64)) (.int .i64))),
  (37, (.pair (.int .i64) (.pair .str (.pair .str (.pair (.int .i64) (.int .i64)))))),
  (43, (.int .i64)),
  (47, (.sl .str)),
  (50, (.pair (.int .i64) (.pair .str (.int .i64)))),
  (62, (.int .u64)),
  (64, (.pair (.int .i64) (.int .u64)))]
def AllP {α : Type} (p : α → Prop) : List α → Prop
  | [] => True
  | a :: r => p a ∧ AllP p r
theorem AllP.mem {α : Type} {p : α → Prop} : ∀ {l : List α}, AllP p l → ∀ x ∈ l, p x
  | _ :: _, h, _, .head _ => h.1
  | _ :: _, h, _, .tail _ hx => AllP.mem h.2 _ hx
theorem T_ok : AllP (fun x => tiOf prog x.1 = some x.2) T := ⟨by show tiOf prog _ = some _; kernel_rfl, by show tiOf prog _ = some _; kernel_rfl, by show tiOf prog _ = some _; kernel_rfl, by show tiOf prog _ = some _; kernel_rfl, by show tiOf prog _ = some _; kernel_rfl, by show tiOf prog _ = some _; kernel_rfl, by show tiOf prog _ = some _; kernel_rfl, by show tiOf prog _ = some _; kernel_rfl, by show tiOf prog _ = some _; kernel_rfl, by show tiOf prog _ = some _; kernel_rfl, by show tiOf prog _ = some _; kernel_rfl, by show tiOf prog _ = some _; kernel_rfl, by show tiOf prog _ = some _; kernel_rfl, by show tiOf prog _ = some _; kernel_rfl, by show tiOf prog _ = some _; kernel_rfl, by show tiOf prog _ = some _; kernel_rfl, by show tiOf prog _ = some _; kernel_rfl, trivial⟩
theorem lk_mem {α : Type} {t : Nat} {v : α} : ∀ {l : List (Nat × α)}, lk t l = some v → (t, v) ∈ l
  | (u, w) :: l, h => by
    unfold lk at h
    split at h
    · rename_i e; cases h; subst e; simp
    · exact List.mem_cons_of_mem _ (lk_mem h)
def EQ : List (TypeId × List Sc) := [(37, [.int .i64, .str, .str, .int .i64, .int .i64]), (50, [.int .i64, .str, .int .i64]), (64, [.int .i64, .int .u64])]
theorem EQ_ok : AllP (fun x => EqOk prog x.1 x.2) EQ := ⟨eqOk_flat (by kernel_rfl) (by kernel_rfl) (by kernel_rfl) (by kernel_rfl), eqOk_flat (by kernel_rfl) (by kernel_rfl) (by kernel_rfl) (by kernel_rfl), eqOk_flat (by kernel_rfl) (by kernel_rfl) (by kernel_rfl) (by kernel_rfl), trivial⟩
theorem tabsT {cfg : Cfg} (h : cfg.T = T) (he : (cfg.eqs == [] || cfg.eqs == EQ) = true) : Tabs prog cfg :=
  ⟨fun t i hi => AllP.mem T_ok (t, i) (lk_mem (by rw [← h]; exact hi)), fun t sh ht => by
    rw [Bool.or_eq_true, beq_iff_eq, beq_iff_eq] at he
    rcases he with he | he
    · rw [he] at ht; cases ht
    · rw [he] at ht; exact AllP.mem EQ_ok (t, sh) (lk_mem ht)⟩
theorem mix : prog.follows .mixedOrders = true := by kernel_rfl
end Go.Proofs.Ytakofkfemgoloaa.ve
/- bitext/penalty.widen -/
namespace Go.Proofs.Ytakofkfemgoloaa.ve
open Go Go.Vs Go.Ve Go.Fn Go.Proofs.Try
set_option linter.unusedVariables false
def F33 : VFE := { cfg := { N := 8, T := T, R := R, con := fun _ f => lkF f [], var := [0, 1], res := [], eqs := [] }, keys := [0, 2], bkeys := [.loc 2] }
def S33 : Sig := { args := [.one (.i .i64)], boxes := [], res := [.row (.pair (.int .i64) (.int .u64))], rbox := [], frz := [] }
def L33 : Nat → Option LoopRec := fun _ => none
set_option maxRecDepth 100000 in
theorem run33 : ∀ x, gives F33 L33 f33 S33 x = (fun x => penalty_widen x) x := by
  intro x
  kernel_rfl
theorem fn33 : FnCalls prog 33 (S33.F (fun x => penalty_widen x)) := fn_sig (F := F33) (tbl := L33) func33 (by kernel_rfl) mix (cok_list (l := []) (tabsT rfl rfl) rfl (by simp)) (by kernel_rfl) (by kernel_rfl) (by decide) (fun _ => by kernel_rfl) run33
def C33 : Con := S33.con (by kernel_rfl) (fun x => penalty_widen x)
theorem G33 : Good1 prog (33, C33) := good_of func33 (by kernel_rfl) (by kernel_rfl) fn33
end Go.Proofs.Ytakofkfemgoloaa.ve
/- math/bits.Sub64, without a borrow. -/
namespace Go.Proofs.Ytakofkfemgoloaa.ve
open Go Go.Vs Go.Ve Go.Fn Go.Proofs.Try
def sub64Entry : Array Value → Sem Value := fun args => do
  let (x, y, b) ← Extern.MathBitsCarry.three "Sub64" args
  pure (Extern.MathBitsCarry.pair ((x + Extern.MathBitsCarry.m64 - y - b) % Extern.MathBitsCarry.m64) (if x < y + b then 1 else 0))
theorem run_sub64 {P : Program} (x y b : Nat) (hb : b ≤ 1) (w : World) :
    (sub64Entry #[.int .u64 x, .int .u64 y, .int .u64 b]).run P w =
      .ok (.tuple #[.int .u64 (((x + 18446744073709551616 - y - b) % 18446744073709551616 : Nat) : Int), .int .u64 ((if x < y + b then 1 else 0 : Nat) : Int)]) w := by
  have : b = 0 ∨ b = 1 := by omega
  rcases this with rfl | rfl <;> rfl
def S34 : Sig := { args := [.one (.i .u64), .one (.i .u64), .one (.i .u64)], res := [.one (.i .u64), .one (.i .u64)] }
theorem getD_of {vals : Array Value} {l : List Value} (hs : vals.size = l.length) (h : ∀ i, i < l.length → vals.getD i undef = l.getD i undef) : vals = l.toArray := by
  apply Array.ext
  · simpa using hs
  · intro i h1 h2
    have := h i (by omega)
    simp only [Array.getD_eq_getD_getElem?, Array.getElem?_eq_getElem h1, List.getD_eq_getElem?_getD, Option.getD_some] at this
    rw [List.getElem?_eq_getElem (by omega)] at this
    simpa using this
theorem sub64_ok : CallOK prog 34 (S34.F fun x => bits_Sub64 x.1 x.2.1 x.2.2) := by
  intro args boxes r h w vals β ω Z hsz hok hpl hent
  unfold Sig.F at h
  split at h
  · rename_i z hz
    split at h
    · rename_i y hy
      obtain ⟨x, yy, b⟩ := z
      obtain ⟨h1, h2⟩ := Sig.dec_some S34 (by kernel_rfl) hz
      subst h1 h2
      cases h
      simp only [bits_Sub64] at hy
      split at hy
      · rename_i hb
        obtain ⟨hx, hy1, hy2, rfl⟩ := hb
        cases hy
        have h0 := (hent.args 0).2
        have h1 := (hent.args 1).2
        have h2 := (hent.args 2).2
        have hv : vals = #[.int .u64 x, .int .u64 yy, .int .u64 0] := by
          refine getD_of (l := [.int .u64 x, .int .u64 yy, .int .u64 0]) hsz fun i hi => ?_
          match i, hi with
          | 0, _ => exact h0
          | 1, _ => exact h1
          | 2, _ => exact h2
        obtain ⟨a, rfl⟩ := Int.eq_ofNat_of_zero_le hx
        obtain ⟨c, rfl⟩ := Int.eq_ofNat_of_zero_le hy1
        refine .inr ⟨.tuple #[.int .u64 (((a + 18446744073709551616 - c - 0) % 18446744073709551616 : Nat) : Int), .int .u64 ((if a < c + 0 then 1 else 0 : Nat) : Int)], w, _, _, Z, ?_, exit_scalar hent hok rfl rfl rfl (Nat.le_refl _) (fun _ _ _ => rfl) (K₀ := ctxOf prog 0 w vals β ω Z) (β₀ := β) (Z₀ := Z) (s₀ := fun _ => {}) (a₀ := { tmps := #[], defers := [] }) (w₀ := w) ?_ ?_ rfl rfl⟩
        · subst hv
          rw [run_callFunc_extern func34 (by kernel_rfl) (by kernel_rfl) (by kernel_rfl) (e := sub64Entry) (by kernel_rfl)]
          have := run_sub64 (P := prog) a c 0 (by omega) w
          simp only [Int.natCast_zero] at this ⊢
          rw [this]
          rfl
        · refine ⟨_, rfl, ⟨?_, ?_, trivial⟩⟩
          · simp only [TRel]
            refine ⟨_, rfl, rfl, ?_⟩
            show Value.int _ _ = Value.int _ (((a : Int) + 18446744073709551616 - (c : Int)) % 18446744073709551616)
            congr 1
            omega
          · simp only [TRel]
            refine ⟨_, rfl, rfl, ?_⟩
            show Value.int _ _ = Value.int _ _
            congr 1
            show _ = (if (a : Int) < c then (1 : Int) else 0)
            by_cases hlt : a < c
            · simp [hlt]
            · simp [hlt]
        · rfl
      · cases hy
    · cases h
  · cases h
def C34 : Con := S34.con (by kernel_rfl) (fun x => bits_Sub64 x.1 x.2.1 x.2.2)
theorem G34 : Good1 prog (34, C34) := sub64_ok
end Go.Proofs.Ytakofkfemgoloaa.ve
/- bitext/penalty.aged -/
namespace Go.Proofs.Ytakofkfemgoloaa.ve
open Go Go.Vs Go.Ve Go.Fn Go.Proofs.Try
set_option linter.unusedVariables false
def F23 : VFE := { cfg := { N := 51, T := T, R := R, con := fun _ f => lkF f [(33, C33), (34, C34)], var := [0, 1, 2, 3, 4, 5, 6, 7, 8, 9, 10, 11, 12], res := [6], eqs := [] }, keys := [0, 1, 2, 6, 7, 8, 9, 10, 11, 12], bkeys := [.loc 7, .loc 8, .loc 9] }
def S23 : Sig := { args := [.one (.i .i64), .one (.i .i64), .one (.i .i64)], boxes := [], res := [.one .b], rbox := [], frz := [] }
def L23 : Nat → Option LoopRec := fun _ => none
set_option maxRecDepth 100000 in
theorem run23 : ∀ x, gives F23 L23 f23 S23 x = (fun x => penalty_aged x.1 x.2.1 x.2.2) x := by
  intro x
  kernel_rfl
theorem fn23 : FnCalls prog 23 (S23.F (fun x => penalty_aged x.1 x.2.1 x.2.2)) := fn_sig (F := F23) (tbl := L23) func23 (by kernel_rfl) mix (cok_list (l := [(33, C33), (34, C34)]) (tabsT rfl rfl) rfl (List.forall_mem_cons.2 ⟨G33, List.forall_mem_cons.2 ⟨G34, by simp⟩⟩)) (by kernel_rfl) (by kernel_rfl) (by decide) (fun _ => by kernel_rfl) run23
def C23 : Con := S23.con (by kernel_rfl) (fun x => penalty_aged x.1 x.2.1 x.2.2)
theorem G23 : Good1 prog (23, C23) := good_of func23 (by kernel_rfl) (by kernel_rfl) fn23
end Go.Proofs.Ytakofkfemgoloaa.ve
/- bitext/penalty.Applies -/
namespace Go.Proofs.Ytakofkfemgoloaa.ve
open Go Go.Vs Go.Ve Go.Fn Go.Proofs.Try
set_option linter.unusedVariables false
def F13 : VFE := { cfg := { N := 52, T := T, R := R, con := fun _ f => lkF f [(23, C23)], var := [0, 1, 2, 3, 4, 5, 6], res := [6], eqs := [] }, keys := [0, 1, 2, 3, 4, 6, 7, 18], bkeys := [.loc 3, .loc 4] }
def S13 : Sig := { args := [.row (.pair (.int .i64) (.pair .str (.pair .str (.pair (.int .i64) (.int .i64))))), .row (.pair (.sl (.pair (.int .i64) (.pair .str (.int .i64)))) (.pair (.sl (.pair (.int .i64) (.pair .str (.int .i64)))) (.pair .str (.pair .str (.pair .str (.pair .str (.pair (.int .i64) (.int .i64)))))))), .one (.i .i64)], boxes := [], res := [.one .b], rbox := [], frz := [] }
def L13 : Nat → Option LoopRec := fun _ => none
set_option maxRecDepth 100000 in
theorem run13 : ∀ x, gives F13 L13 f13 S13 x = (fun x => penalty_Applies x.1 x.2.1 x.2.2) x := by
  intro x
  kernel_rfl
theorem fn13 : FnCalls prog 13 (S13.F (fun x => penalty_Applies x.1 x.2.1 x.2.2)) := fn_sig (F := F13) (tbl := L13) func13 (by kernel_rfl) mix (cok_list (l := [(23, C23)]) (tabsT rfl rfl) rfl (List.forall_mem_cons.2 ⟨G23, by simp⟩)) (by kernel_rfl) (by kernel_rfl) (by decide) (fun _ => by kernel_rfl) run13
def C13 : Con := S13.con (by kernel_rfl) (fun x => penalty_Applies x.1 x.2.1 x.2.2)
theorem G13 : Good1 prog (13, C13) := good_of func13 (by kernel_rfl) (by kernel_rfl) fn13
end Go.Proofs.Ytakofkfemgoloaa.ve
/- bitext/penalty.Points -/
namespace Go.Proofs.Ytakofkfemgoloaa.ve
open Go Go.Vs Go.Ve Go.Fn Go.Proofs.Try
set_option linter.unusedVariables false
def F15 : VFE := { cfg := { N := 33, T := T, R := R, con := fun _ f => lkF f [(13, C13)], var := [0, 1, 2, 3, 4, 5, 6, 7, 8, 9], res := [6], eqs := [] }, keys := [0, 1, 2, 4, 6, 7, 9, 10, 11, 12, 13, 24], bkeys := [.loc 4, .loc 9] }
def S15 : Sig := { args := [.one (.n .data (.pair (.int .i64) (.pair .str (.pair .str (.pair (.int .i64) (.int .i64)))))), .row (.pair (.sl (.pair (.int .i64) (.pair .str (.int .i64)))) (.pair (.sl (.pair (.int .i64) (.pair .str (.int .i64)))) (.pair .str (.pair .str (.pair .str (.pair .str (.pair (.int .i64) (.int .i64)))))))), .one (.i .i64)], boxes := [], res := [.one (.i .i64)], rbox := [], frz := [] }
def L15 : Nat → Option LoopRec := fun n => match n with
  | 0 => some { head := { live := [2, 4, 7, 10, 11, 12], lbox := [(.loc 4)], vs := [.slot 7 (.i .i64), .slot 12 (.i .i64)] }, exits := [(.exit 0, { live := [7], lbox := [], vs := [.slot 7 (.i .i64)] })] }
  | _ => none
set_option maxRecDepth 100000 in
theorem run15 : ∀ x, gives F15 L15 f15 S15 x = (fun x => penalty_Points x.1 x.2.1 x.2.2) x := by
  intro x
  kernel_rfl
theorem fn15 : FnCalls prog 15 (S15.F (fun x => penalty_Points x.1 x.2.1 x.2.2)) := fn_sig (F := F15) (tbl := L15) func15 (by kernel_rfl) mix (cok_list (l := [(13, C13)]) (tabsT rfl rfl) rfl (List.forall_mem_cons.2 ⟨G13, by simp⟩)) (by kernel_rfl) (by kernel_rfl) (by decide) (fun _ => by kernel_rfl) run15
def C15 : Con := S15.con (by kernel_rfl) (fun x => penalty_Points x.1 x.2.1 x.2.2)
theorem G15 : Good1 prog (15, C15) := good_of func15 (by kernel_rfl) (by kernel_rfl) fn15
end Go.Proofs.Ytakofkfemgoloaa.ve
/- bitext/bitextlaw17.known -/
namespace Go.Proofs.Ytakofkfemgoloaa.ve
open Go Go.Vs Go.Ve Go.Fn Go.Proofs.Try
set_option linter.unusedVariables false
def F9 : VFE := { cfg := { N := 22, T := T, R := R, con := fun _ f => lkF f [(13, C13), (15, C15)], var := [0, 1, 2], res := [0], eqs := [] }, keys := [0, 1, 2], bkeys := [.loc 1, .loc 2] }
def S9 : Sig := { args := [], boxes := [], res := [.one .b], rbox := [], frz := [] }
def L9 : Nat → Option LoopRec := fun _ => none
set_option maxRecDepth 100000 in
theorem run9 : ∀ x, gives F9 L9 f9 S9 x = (fun _ => bitextlaw17_known) x := by
  intro x
  kernel_rfl
theorem fn9 : FnCalls prog 9 (S9.F (fun _ => bitextlaw17_known)) := fn_sig (F := F9) (tbl := L9) func9 (by kernel_rfl) mix (cok_list (l := [(13, C13), (15, C15)]) (tabsT rfl rfl) rfl (List.forall_mem_cons.2 ⟨G13, List.forall_mem_cons.2 ⟨G15, by simp⟩⟩)) (by kernel_rfl) (by kernel_rfl) (by decide) (fun _ => by kernel_rfl) run9
def C9 : Con := S9.con (by kernel_rfl) (fun _ => bitextlaw17_known)
theorem G9 : Good1 prog (9, C9) := good_of func9 (by kernel_rfl) (by kernel_rfl) fn9
end Go.Proofs.Ytakofkfemgoloaa.ve
/- bitext/bitextmake.Place -/
namespace Go.Proofs.Ytakofkfemgoloaa.ve
open Go Go.Vs Go.Ve Go.Fn Go.Proofs.Try
set_option linter.unusedVariables false
def F12 : VFE := { cfg := { N := 14, T := T, R := R, con := fun _ f => lkF f [], var := [0, 1, 2, 3, 4], res := [4], eqs := [] }, keys := [0, 1, 4, 9], bkeys := [] }
def S12 : Sig := { args := [.one (.i .i64), .one (.i .i64)], boxes := [], res := [.one (.i .i64)], rbox := [], frz := [] }
def L12 : Nat → Option LoopRec := fun _ => none
set_option maxRecDepth 100000 in
theorem run12 : ∀ x, gives F12 L12 f12 S12 x = (fun x => bitextmake_Place x.1 x.2) x := by
  intro x
  kernel_rfl
theorem fn12 : FnCalls prog 12 (S12.F (fun x => bitextmake_Place x.1 x.2)) := fn_sig (F := F12) (tbl := L12) func12 (by kernel_rfl) mix (cok_list (l := []) (tabsT rfl rfl) rfl (by simp)) (by kernel_rfl) (by kernel_rfl) (by decide) (fun _ => by kernel_rfl) run12
def C12 : Con := S12.con (by kernel_rfl) (fun x => bitextmake_Place x.1 x.2)
theorem G12 : Good1 prog (12, C12) := good_of func12 (by kernel_rfl) (by kernel_rfl) fn12
end Go.Proofs.Ytakofkfemgoloaa.ve
/- (*bitext/bitextmake.Numbers).Next -/
namespace Go.Proofs.Ytakofkfemgoloaa.ve
open Go Go.Vs Go.Ve Go.Fn Go.Proofs.Try
set_option linter.unusedVariables false
def F19 : VFE := { cfg := { N := 36, T := T, R := R, con := fun _ f => lkF f [(12, C12)], var := [0, 1, 2, 3, 4, 5], res := [4], eqs := [] }, keys := [0, 1, 4, 5, 15], bkeys := [.inb 0] }
def S19 : Sig := { args := [.ptr (.inb 0) 0, .one (.i .i64)], boxes := [.row (.pair (.sl (.int .i64)) (.int .i64))], res := [.one (.i .i64)], rbox := [[none, some (.i .i64)]], frz := [] }
def L19 : Nat → Option LoopRec := fun _ => none
set_option maxRecDepth 100000 in
theorem run19 : ∀ x, gives F19 L19 f19 S19 x = (fun x => bitextmake_Numbers_Next x.1 x.2) x := by
  intro x
  kernel_rfl
theorem fn19 : FnCalls prog 19 (S19.F (fun x => bitextmake_Numbers_Next x.1 x.2)) := fn_sig (F := F19) (tbl := L19) func19 (by kernel_rfl) mix (cok_list (l := [(12, C12)]) (tabsT rfl rfl) rfl (List.forall_mem_cons.2 ⟨G12, by simp⟩)) (by kernel_rfl) (by kernel_rfl) (by decide) (fun _ => by kernel_rfl) run19
def C19 : Con := S19.con (by kernel_rfl) (fun x => bitextmake_Numbers_Next x.1 x.2)
theorem G19 : Good1 prog (19, C19) := good_of func19 (by kernel_rfl) (by kernel_rfl) fn19
end Go.Proofs.Ytakofkfemgoloaa.ve
/- bitext/bitextmake.Penalties -/
namespace Go.Proofs.Ytakofkfemgoloaa.ve
open Go Go.Vs Go.Ve Go.Fn Go.Proofs.Try
set_option linter.unusedVariables false
def F10 : VFE := { cfg := { N := 39, T := T, R := R, con := fun _ f => lkF f [(19, C19)], var := [0, 1, 2, 3, 4, 5, 6], res := [4], eqs := [] }, keys := [0, 1, 4, 5, 6, 12], bkeys := [.inb 0] }
def S10 : Sig := { args := [.ptr (.inb 0) 0, .one (.i .i64)], boxes := [.row (.pair (.sl (.int .i64)) (.int .i64))], res := [.one (.n .own (.pair (.int .i64) (.pair .str (.pair .str (.pair (.int .i64) (.int .i64))))))], rbox := [[none, some (.i .i64)]], frz := [] }
def L10 : Nat → Option LoopRec := fun n => match n with
  | 0 => some { head := { live := [0, 5, 6], lbox := [(.inb 0)], vs := [.slot 5 (.n .own (.pair (.int .i64) (.pair .str (.pair .str (.pair (.int .i64) (.int .i64)))))), .slot 6 (.i .i64), .cell (.inb 0) 1 (.i .i64)] }, exits := [(.exit 0, { live := [5], lbox := [(.inb 0)], vs := [.slot 5 (.n .own (.pair (.int .i64) (.pair .str (.pair .str (.pair (.int .i64) (.int .i64)))))), .cell (.inb 0) 1 (.i .i64)] })] }
  | _ => none
set_option maxRecDepth 100000 in
theorem run10 : ∀ x, gives F10 L10 f10 S10 x = (fun x => bitextmake_Penalties x.1 x.2) x := by
  intro x
  kernel_rfl
theorem fn10 : FnCalls prog 10 (S10.F (fun x => bitextmake_Penalties x.1 x.2)) := fn_sig (F := F10) (tbl := L10) func10 (by kernel_rfl) mix (cok_list (l := [(19, C19)]) (tabsT rfl rfl) rfl (List.forall_mem_cons.2 ⟨G19, by simp⟩)) (by kernel_rfl) (by kernel_rfl) (by decide) (fun _ => by kernel_rfl) run10
def C10 : Con := S10.con (by kernel_rfl) (fun x => bitextmake_Penalties x.1 x.2)
theorem G10 : Good1 prog (10, C10) := good_of func10 (by kernel_rfl) (by kernel_rfl) fn10
end Go.Proofs.Ytakofkfemgoloaa.ve
/- bitext/bitextmake.word -/
namespace Go.Proofs.Ytakofkfemgoloaa.ve
open Go Go.Vs Go.Ve Go.Fn Go.Proofs.Try
set_option linter.unusedVariables false
def F36 : VFE := { cfg := { N := 8, T := T, R := R, con := fun _ f => lkF f [(19, C19)], var := [0, 1, 2], res := [2], eqs := [] }, keys := [0, 2], bkeys := [.inb 0] }
def S36 : Sig := { args := [.ptr (.inb 0) 0], boxes := [.row (.pair (.sl (.int .i64)) (.int .i64))], res := [.one .s], rbox := [[none, some (.i .i64)]], frz := [] }
def L36 : Nat → Option LoopRec := fun _ => none
set_option maxRecDepth 100000 in
theorem run36 : ∀ x, gives F36 L36 f36 S36 x = (fun x => bitextmake_word x) x := by
  intro x
  kernel_rfl
theorem fn36 : FnCalls prog 36 (S36.F (fun x => bitextmake_word x)) := fn_sig (F := F36) (tbl := L36) func36 (by kernel_rfl) mix (cok_list (l := [(19, C19)]) (tabsT rfl rfl) rfl (List.forall_mem_cons.2 ⟨G19, by simp⟩)) (by kernel_rfl) (by kernel_rfl) (by decide) (fun _ => by kernel_rfl) run36
def C36 : Con := S36.con (by kernel_rfl) (fun x => bitextmake_word x)
theorem G36 : Good1 prog (36, C36) := good_of func36 (by kernel_rfl) (by kernel_rfl) fn36
end Go.Proofs.Ytakofkfemgoloaa.ve
/- bitext/bitextmake.Line -/
namespace Go.Proofs.Ytakofkfemgoloaa.ve
open Go Go.Vs Go.Ve Go.Fn Go.Proofs.Try
set_option linter.unusedVariables false
def F27 : VFE := { cfg := { N := 31, T := T, R := R, con := fun _ f => lkF f [(19, C19), (36, C36)], var := [0, 1, 2, 3, 4, 5, 6, 7], res := [4], eqs := [] }, keys := [0, 1, 4, 5, 6, 7, 13, 24], bkeys := [.inb 0] }
def S27 : Sig := { args := [.ptr (.inb 0) 0, .one (.i .i64)], boxes := [.row (.pair (.sl (.int .i64)) (.int .i64))], res := [.one .s], rbox := [[none, some (.i .i64)]], frz := [] }
def L27 : Nat → Option LoopRec := fun n => match n with
  | 0 => some { head := { live := [0, 5, 6], lbox := [(.inb 0)], vs := [.slot 5 .s, .slot 6 (.i .i64), .cell (.inb 0) 1 (.i .i64)] }, exits := [(.exit 0, { live := [5], lbox := [(.inb 0)], vs := [.slot 5 .s, .cell (.inb 0) 1 (.i .i64)] })] }
  | _ => none
set_option maxRecDepth 100000 in
theorem run27 : ∀ x, gives F27 L27 f27 S27 x = (fun x => bitextmake_Line x.1 x.2) x := by
  intro x
  kernel_rfl
theorem fn27 : FnCalls prog 27 (S27.F (fun x => bitextmake_Line x.1 x.2)) := fn_sig (F := F27) (tbl := L27) func27 (by kernel_rfl) mix (cok_list (l := [(19, C19), (36, C36)]) (tabsT rfl rfl) rfl (List.forall_mem_cons.2 ⟨G19, List.forall_mem_cons.2 ⟨G36, by simp⟩⟩)) (by kernel_rfl) (by kernel_rfl) (by decide) (fun _ => by kernel_rfl) run27
def C27 : Con := S27.con (by kernel_rfl) (fun x => bitextmake_Line x.1 x.2)
theorem G27 : Good1 prog (27, C27) := good_of func27 (by kernel_rfl) (by kernel_rfl) fn27
end Go.Proofs.Ytakofkfemgoloaa.ve
/- bitext/bitextref3.Name -/
namespace Go.Proofs.Ytakofkfemgoloaa.ve
open Go Go.Vs Go.Ve Go.Fn Go.Proofs.Try
set_option linter.unusedVariables false
def F28 : VFE := { cfg := { N := 18, T := T, R := R, con := fun _ f => lkF f [], var := [0, 1, 2, 3], res := [2], eqs := [] }, keys := [0, 2, 3, 7, 13], bkeys := [] }
def S28 : Sig := { args := [.one .s], boxes := [], res := [.one .s], rbox := [], frz := [] }
def L28 : Nat → Option LoopRec := fun n => match n with
  | 0 => some { head := { live := [0, 3], lbox := [], vs := [.slot 3 (.i .i64)] }, exits := [(.ret, { live := [2], lbox := [], vs := [.slot 2 .s] }), (.exit 0, { live := [0], lbox := [], vs := [] })] }
  | _ => none
set_option maxRecDepth 100000 in
theorem run28 : ∀ x, gives F28 L28 f28 S28 x = (fun x => bitextref3_Name x) x := by
  intro x
  kernel_rfl
theorem fn28 : FnCalls prog 28 (S28.F (fun x => bitextref3_Name x)) := fn_sig (F := F28) (tbl := L28) func28 (by kernel_rfl) mix (cok_list (l := []) (tabsT rfl rfl) rfl (by simp)) (by kernel_rfl) (by kernel_rfl) (by decide) (fun _ => by kernel_rfl) run28
def C28 : Con := S28.con (by kernel_rfl) (fun x => bitextref3_Name x)
theorem G28 : Good1 prog (28, C28) := good_of func28 (by kernel_rfl) (by kernel_rfl) fn28
end Go.Proofs.Ytakofkfemgoloaa.ve
/- bitext/bitextref3.Normalize -/
namespace Go.Proofs.Ytakofkfemgoloaa.ve
open Go Go.Vs Go.Ve Go.Fn Go.Proofs.Try
set_option linter.unusedVariables false
def F37 : VFE := { cfg := { N := 61, T := T, R := R, con := fun _ f => lkF f [], var := [0, 1, 2, 3, 4, 5, 6], res := [2], eqs := [] }, keys := [0, 2, 3, 4, 5, 6, 8, 9, 10, 18, 25, 38], bkeys := [.loc 5] }
def S37 : Sig := { args := [.one (.n .data (.pair (.int .i64) (.pair .str (.int .i64))))], boxes := [], res := [.one (.n .own (.pair (.int .i64) (.pair .str (.int .i64))))], rbox := [], frz := [] }
def L37 : Nat → Option LoopRec := fun n => match n with
  | 0 => some { head := { live := [0, 3, 8, 9], lbox := [], vs := [.slot 3 (.n .own (.pair (.int .i64) (.pair .str (.int .i64)))), .slot 9 (.i .i64)] }, exits := [(.exit 0, { live := [3], lbox := [], vs := [.slot 3 (.n .own (.pair (.int .i64) (.pair .str (.int .i64))))] })] }
  | _ => none
set_option maxRecDepth 100000 in
theorem run37 : ∀ x, gives F37 L37 f37 S37 x = (fun x => bitextref3_Normalize x) x := by
  intro x
  kernel_rfl
theorem fn37 : FnCalls prog 37 (S37.F (fun x => bitextref3_Normalize x)) := fn_sig (F := F37) (tbl := L37) func37 (by kernel_rfl) mix (cok_list (l := []) (tabsT rfl rfl) rfl (by simp)) (by kernel_rfl) (by kernel_rfl) (by decide) (fun _ => by kernel_rfl) run37
def C37 : Con := S37.con (by kernel_rfl) (fun x => bitextref3_Normalize x)
theorem G37 : Good1 prog (37, C37) := good_of func37 (by kernel_rfl) (by kernel_rfl) fn37
end Go.Proofs.Ytakofkfemgoloaa.ve
/- bitext/bitextref3.Concat -/
namespace Go.Proofs.Ytakofkfemgoloaa.ve
open Go Go.Vs Go.Ve Go.Fn Go.Proofs.Try
set_option linter.unusedVariables false
def F29o0 : VFE := { cfg := { N := 10, T := T, R := R, con := fun _ f => lkF f [(37, C37)], var := [0, 1, 2, 3, 4], res := [4], eqs := [] }, keys := [0, 1, 4], bkeys := [] }
def S29o0 : Sig := { args := [.one (.n .own (.pair (.int .i64) (.pair .str (.int .i64)))), .one (.n .data (.pair (.int .i64) (.pair .str (.int .i64))))], boxes := [], res := [.one (.n .own (.pair (.int .i64) (.pair .str (.int .i64))))], rbox := [], frz := [] }
def L29o0 : Nat → Option LoopRec := fun _ => none
set_option maxRecDepth 100000 in
theorem run29o0 : ∀ x, gives F29o0 L29o0 f29 S29o0 x = (fun x => bitextref3_Concat_o0 x.1 x.2) x := by
  intro x
  kernel_rfl
theorem fn29o0 : FnCalls prog 29 (S29o0.F (fun x => bitextref3_Concat_o0 x.1 x.2)) := fn_sig (F := F29o0) (tbl := L29o0) func29 (by kernel_rfl) mix (cok_list (l := [(37, C37)]) (tabsT rfl rfl) rfl (List.forall_mem_cons.2 ⟨G37, by simp⟩)) (by kernel_rfl) (by kernel_rfl) (by decide) (fun _ => by kernel_rfl) run29o0
def C29o0 : Con := S29o0.con (by kernel_rfl) (fun x => bitextref3_Concat_o0 x.1 x.2)
theorem G29o0 : Good1 prog (29, C29o0) := good_of func29 (by kernel_rfl) (by kernel_rfl) fn29o0
end Go.Proofs.Ytakofkfemgoloaa.ve
/- bitext/bitextmake.Fragment -/
namespace Go.Proofs.Ytakofkfemgoloaa.ve
open Go Go.Vs Go.Ve Go.Fn Go.Proofs.Try
set_option linter.unusedVariables false
def F20 : VFE := { cfg := { N := 141, T := T, R := R, con := fun _ f => lkF f [(19, C19), (27, C27), (28, C28), (29, C29o0)], var := [0, 1, 2, 3, 8, 9, 10, 11, 12, 14, 15, 29, 38, 50, 67], res := [8], eqs := [] }, keys := [0, 1, 2, 3, 8, 9, 10, 11, 12, 13, 14, 15, 21, 28, 29, 38, 40, 50, 53, 67, 74, 76, 106, 122], bkeys := [.inb 0, .loc 13] }
def S20 : Sig := { args := [.ptr (.inb 0) 0, .one (.i .i64), .one .b, .one .b], boxes := [.row (.pair (.sl (.int .i64)) (.int .i64))], res := [.one (.n .own (.pair (.int .i64) (.pair .str (.int .i64))))], rbox := [[none, some (.i .i64)]], frz := [] }
def L20 : Nat → Option LoopRec := fun n => match n with
  | 0 => some { head := { live := [0, 2, 3, 9, 10, 11, 12], lbox := [(.inb 0)], vs := [.slot 9 (.n .own (.pair (.int .i64) (.pair .str (.int .i64)))), .slot 10 (.n .own (.pair (.int .i64) (.pair .str (.int .i64)))), .slot 11 (.i .i64), .slot 12 (.i .i64), .cell (.inb 0) 1 (.i .i64)] }, exits := [(.exit 0, { live := [3, 9, 10], lbox := [(.inb 0)], vs := [.slot 9 (.n .own (.pair (.int .i64) (.pair .str (.int .i64)))), .slot 10 (.n .own (.pair (.int .i64) (.pair .str (.int .i64)))), .cell (.inb 0) 1 (.i .i64)] })] }
  | 1 => some { head := { live := [3, 9, 10, 15], lbox := [(.inb 0)], vs := [.slot 9 (.n .own (.pair (.int .i64) (.pair .str (.int .i64)))), .slot 15 (.i .i64)] }, exits := [(.exit 3, { live := [9], lbox := [(.inb 0)], vs := [.slot 9 (.n .own (.pair (.int .i64) (.pair .str (.int .i64))))] })] }
  | _ => none
set_option maxRecDepth 100000 in
theorem run20 : ∀ x, gives F20 L20 f20 S20 x = (fun x => bitextmake_Fragment x.1 x.2.1 x.2.2.1 x.2.2.2) x := by
  intro x
  kernel_rfl
theorem fn20 : FnCalls prog 20 (S20.F (fun x => bitextmake_Fragment x.1 x.2.1 x.2.2.1 x.2.2.2)) := fn_sig (F := F20) (tbl := L20) func20 (by kernel_rfl) mix (cok_list (l := [(19, C19), (27, C27), (28, C28), (29, C29o0)]) (tabsT rfl rfl) rfl (List.forall_mem_cons.2 ⟨G19, List.forall_mem_cons.2 ⟨G27, List.forall_mem_cons.2 ⟨G28, List.forall_mem_cons.2 ⟨G29o0, by simp⟩⟩⟩⟩)) (by kernel_rfl) (by kernel_rfl) (by decide) (fun _ => by kernel_rfl) run20
def C20 : Con := S20.con (by kernel_rfl) (fun x => bitextmake_Fragment x.1 x.2.1 x.2.2.1 x.2.2.2)
theorem G20 : Good1 prog (20, C20) := good_of func20 (by kernel_rfl) (by kernel_rfl) fn20
end Go.Proofs.Ytakofkfemgoloaa.ve
/- bitext/bitextmake.Target -/
namespace Go.Proofs.Ytakofkfemgoloaa.ve
open Go Go.Vs Go.Ve Go.Fn Go.Proofs.Try
set_option linter.unusedVariables false
def F21o1 : VFE := { cfg := { N := 46, T := T, R := R, con := fun _ f => lkF f [(19, C19), (27, C27), (29, C29o0)], var := [0, 1, 2, 3, 4, 5, 6, 7], res := [4], eqs := [] }, keys := [0, 1, 4, 5, 6, 7, 9, 10, 11, 19, 33], bkeys := [.inb 0, .loc 7] }
def S21o1 : Sig := { args := [.ptr (.inb 0) 0, .one (.n .own (.pair (.int .i64) (.pair .str (.int .i64))))], boxes := [.row (.pair (.sl (.int .i64)) (.int .i64))], res := [.one (.n .own (.pair (.int .i64) (.pair .str (.int .i64))))], rbox := [[none, some (.i .i64)]], frz := [] }
def L21o1 : Nat → Option LoopRec := fun n => match n with
  | 0 => some { head := { live := [0, 1, 5, 9, 10], lbox := [(.inb 0)], vs := [.slot 5 (.n .own (.pair (.int .i64) (.pair .str (.int .i64)))), .slot 10 (.i .i64), .cell (.inb 0) 1 (.i .i64)] }, exits := [(.exit 0, { live := [5], lbox := [(.inb 0)], vs := [.slot 5 (.n .own (.pair (.int .i64) (.pair .str (.int .i64)))), .cell (.inb 0) 1 (.i .i64)] })] }
  | _ => none
set_option maxRecDepth 100000 in
theorem run21o1 : ∀ x, gives F21o1 L21o1 f21 S21o1 x = (fun x => bitextmake_Target_o1 x.1 x.2) x := by
  intro x
  kernel_rfl
theorem fn21o1 : FnCalls prog 21 (S21o1.F (fun x => bitextmake_Target_o1 x.1 x.2)) := fn_sig (F := F21o1) (tbl := L21o1) func21 (by kernel_rfl) mix (cok_list (l := [(19, C19), (27, C27), (29, C29o0)]) (tabsT rfl rfl) rfl (List.forall_mem_cons.2 ⟨G19, List.forall_mem_cons.2 ⟨G27, List.forall_mem_cons.2 ⟨G29o0, by simp⟩⟩⟩)) (by kernel_rfl) (by kernel_rfl) (by decide) (fun _ => by kernel_rfl) run21o1
def C21o1 : Con := S21o1.con (by kernel_rfl) (fun x => bitextmake_Target_o1 x.1 x.2)
theorem G21o1 : Good1 prog (21, C21o1) := good_of func21 (by kernel_rfl) (by kernel_rfl) fn21o1
end Go.Proofs.Ytakofkfemgoloaa.ve
/- bitext/bitextref3.IsTag -/
namespace Go.Proofs.Ytakofkfemgoloaa.ve
open Go Go.Vs Go.Ve Go.Fn Go.Proofs.Try
set_option linter.unusedVariables false
def F38 : VFE := { cfg := { N := 16, T := T, R := R, con := fun _ f => lkF f [], var := [0, 1, 2], res := [2], eqs := [] }, keys := [0, 1, 2], bkeys := [.loc 1] }
def S38 : Sig := { args := [.row (.pair (.int .i64) (.pair .str (.int .i64)))], boxes := [], res := [.one .b], rbox := [], frz := [] }
def L38 : Nat → Option LoopRec := fun _ => none
set_option maxRecDepth 100000 in
theorem run38 : ∀ x, gives F38 L38 f38 S38 x = (fun x => bitextref3_IsTag x) x := by
  intro x
  kernel_rfl
theorem fn38 : FnCalls prog 38 (S38.F (fun x => bitextref3_IsTag x)) := fn_sig (F := F38) (tbl := L38) func38 (by kernel_rfl) mix (cok_list (l := []) (tabsT rfl rfl) rfl (by simp)) (by kernel_rfl) (by kernel_rfl) (by decide) (fun _ => by kernel_rfl) run38
def C38 : Con := S38.con (by kernel_rfl) (fun x => bitextref3_IsTag x)
theorem G38 : Good1 prog (38, C38) := good_of func38 (by kernel_rfl) (by kernel_rfl) fn38
end Go.Proofs.Ytakofkfemgoloaa.ve
/- bitext/bitextref3.Has -/
namespace Go.Proofs.Ytakofkfemgoloaa.ve
open Go Go.Vs Go.Ve Go.Fn Go.Proofs.Try
set_option linter.unusedVariables false
def F39o0 : VFE := { cfg := { N := 18, T := T, R := R, con := fun _ f => lkF f [], var := [0, 1, 2, 3, 4, 5], res := [4], eqs := [] }, keys := [0, 1, 4, 5, 7, 8, 9, 16], bkeys := [] }
def S39o0 : Sig := { args := [.one (.n .own (.int .i64)), .one (.i .i64)], boxes := [], res := [.one .b], rbox := [], frz := [] }
def L39o0 : Nat → Option LoopRec := fun n => match n with
  | 0 => some { head := { live := [0, 1, 7, 8], lbox := [], vs := [.slot 8 (.i .i64)] }, exits := [(.ret, { live := [4], lbox := [], vs := [.slot 4 .b] }), (.exit 0, { live := [], lbox := [], vs := [] })] }
  | _ => none
set_option maxRecDepth 100000 in
theorem run39o0 : ∀ x, gives F39o0 L39o0 f39 S39o0 x = (fun x => bitextref3_Has_o0 x.1 x.2) x := by
  intro x
  kernel_rfl
theorem fn39o0 : FnCalls prog 39 (S39o0.F (fun x => bitextref3_Has_o0 x.1 x.2)) := fn_sig (F := F39o0) (tbl := L39o0) func39 (by kernel_rfl) mix (cok_list (l := []) (tabsT rfl rfl) rfl (by simp)) (by kernel_rfl) (by kernel_rfl) (by decide) (fun _ => by kernel_rfl) run39o0
def C39o0 : Con := S39o0.con (by kernel_rfl) (fun x => bitextref3_Has_o0 x.1 x.2)
theorem G39o0 : Good1 prog (39, C39o0) := good_of func39 (by kernel_rfl) (by kernel_rfl) fn39o0
end Go.Proofs.Ytakofkfemgoloaa.ve
/- bitext/bitextref3.Numbers -/
namespace Go.Proofs.Ytakofkfemgoloaa.ve
open Go Go.Vs Go.Ve Go.Fn Go.Proofs.Try
set_option linter.unusedVariables false
def F30 : VFE := { cfg := { N := 35, T := T, R := R, con := fun _ f => lkF f [(38, C38), (39, C39o0)], var := [0, 1, 2, 3, 4], res := [2], eqs := [] }, keys := [0, 2, 3, 4, 6, 7, 8, 24], bkeys := [] }
def S30 : Sig := { args := [.one (.n .data (.pair (.int .i64) (.pair .str (.int .i64))))], boxes := [], res := [.one (.n .own (.int .i64))], rbox := [], frz := [] }
def L30 : Nat → Option LoopRec := fun n => match n with
  | 0 => some { head := { live := [0, 3, 6, 7], lbox := [], vs := [.slot 3 (.n .own (.int .i64)), .slot 7 (.i .i64)] }, exits := [(.exit 0, { live := [3], lbox := [], vs := [.slot 3 (.n .own (.int .i64))] })] }
  | _ => none
set_option maxRecDepth 100000 in
theorem run30 : ∀ x, gives F30 L30 f30 S30 x = (fun x => bitextref3_Numbers x) x := by
  intro x
  kernel_rfl
theorem fn30 : FnCalls prog 30 (S30.F (fun x => bitextref3_Numbers x)) := fn_sig (F := F30) (tbl := L30) func30 (by kernel_rfl) mix (cok_list (l := [(38, C38), (39, C39o0)]) (tabsT rfl rfl) rfl (List.forall_mem_cons.2 ⟨G38, List.forall_mem_cons.2 ⟨G39o0, by simp⟩⟩)) (by kernel_rfl) (by kernel_rfl) (by decide) (fun _ => by kernel_rfl) run30
def C30 : Con := S30.con (by kernel_rfl) (fun x => bitextref3_Numbers x)
theorem G30 : Good1 prog (30, C30) := good_of func30 (by kernel_rfl) (by kernel_rfl) fn30
end Go.Proofs.Ytakofkfemgoloaa.ve
/- bitext/bitextref3.upTo -/
namespace Go.Proofs.Ytakofkfemgoloaa.ve
open Go Go.Vs Go.Ve Go.Fn Go.Proofs.Try
set_option linter.unusedVariables false
def F31 : VFE := { cfg := { N := 15, T := T, R := R, con := fun _ f => lkF f [], var := [0, 1, 2, 3, 4], res := [2], eqs := [] }, keys := [0, 2, 3, 4, 7], bkeys := [] }
def S31 : Sig := { args := [.one (.i .i64)], boxes := [], res := [.one (.n .own (.int .i64))], rbox := [], frz := [] }
def L31 : Nat → Option LoopRec := fun n => match n with
  | 0 => some { head := { live := [0, 3, 4], lbox := [], vs := [.slot 3 (.n .own (.int .i64)), .slot 4 (.i .i64)] }, exits := [(.exit 0, { live := [3], lbox := [], vs := [.slot 3 (.n .own (.int .i64))] })] }
  | _ => none
set_option maxRecDepth 100000 in
theorem run31 : ∀ x, gives F31 L31 f31 S31 x = (fun x => bitextref3_upTo x) x := by
  intro x
  kernel_rfl
theorem fn31 : FnCalls prog 31 (S31.F (fun x => bitextref3_upTo x)) := fn_sig (F := F31) (tbl := L31) func31 (by kernel_rfl) mix (cok_list (l := []) (tabsT rfl rfl) rfl (by simp)) (by kernel_rfl) (by kernel_rfl) (by decide) (fun _ => by kernel_rfl) run31
def C31 : Con := S31.con (by kernel_rfl) (fun x => bitextref3_upTo x)
theorem G31 : Good1 prog (31, C31) := good_of func31 (by kernel_rfl) (by kernel_rfl) fn31
end Go.Proofs.Ytakofkfemgoloaa.ve
/- bitext/bitextref3.Normalize -/
namespace Go.Proofs.Ytakofkfemgoloaa.ve
open Go Go.Vs Go.Ve Go.Fn Go.Proofs.Try
set_option linter.unusedVariables false
def F37o0 : VFE := { cfg := { N := 61, T := T, R := R, con := fun _ f => lkF f [], var := [0, 1, 2, 3, 4, 5, 6], res := [2], eqs := [] }, keys := [0, 2, 3, 4, 5, 6, 8, 9, 10, 18, 25, 38], bkeys := [.loc 5] }
def S37o0 : Sig := { args := [.one (.n .own (.pair (.int .i64) (.pair .str (.int .i64))))], boxes := [], res := [.one (.n .own (.pair (.int .i64) (.pair .str (.int .i64))))], rbox := [], frz := [] }
def L37o0 : Nat → Option LoopRec := fun n => match n with
  | 0 => some { head := { live := [0, 3, 8, 9], lbox := [], vs := [.slot 3 (.n .own (.pair (.int .i64) (.pair .str (.int .i64)))), .slot 9 (.i .i64)] }, exits := [(.exit 0, { live := [3], lbox := [], vs := [.slot 3 (.n .own (.pair (.int .i64) (.pair .str (.int .i64))))] })] }
  | _ => none
set_option maxRecDepth 100000 in
theorem run37o0 : ∀ x, gives F37o0 L37o0 f37 S37o0 x = (fun x => bitextref3_Normalize_o0 x) x := by
  intro x
  kernel_rfl
theorem fn37o0 : FnCalls prog 37 (S37o0.F (fun x => bitextref3_Normalize_o0 x)) := fn_sig (F := F37o0) (tbl := L37o0) func37 (by kernel_rfl) mix (cok_list (l := []) (tabsT rfl rfl) rfl (by simp)) (by kernel_rfl) (by kernel_rfl) (by decide) (fun _ => by kernel_rfl) run37o0
def C37o0 : Con := S37o0.con (by kernel_rfl) (fun x => bitextref3_Normalize_o0 x)
theorem G37o0 : Good1 prog (37, C37o0) := good_of func37 (by kernel_rfl) (by kernel_rfl) fn37o0
end Go.Proofs.Ytakofkfemgoloaa.ve
/- bitext/bitextref3.Rename -/
namespace Go.Proofs.Ytakofkfemgoloaa.ve
open Go Go.Vs Go.Ve Go.Fn Go.Proofs.Try
set_option linter.unusedVariables false
def F32o0_1_2 : VFE := { cfg := { N := 61, T := T, R := R, con := fun _ f => lkF f [(38, C38), (37, C37o0)], var := [0, 1, 2, 3, 4, 5, 6, 7, 8, 9, 10], res := [6], eqs := [] }, keys := [0, 1, 2, 6, 7, 8, 9, 10, 12, 13, 14, 22, 36, 45], bkeys := [.loc 9] }
def S32o0_1_2 : Sig := { args := [.one (.n .own (.pair (.int .i64) (.pair .str (.int .i64)))), .one (.n .own (.int .i64)), .one (.n .own (.int .i64))], boxes := [], res := [.one (.n .own (.pair (.int .i64) (.pair .str (.int .i64))))], rbox := [], frz := [] }
def L32o0_1_2 : Nat → Option LoopRec := fun n => match n with
  | 0 => some { head := { live := [0, 1, 2, 7, 12, 13], lbox := [], vs := [.slot 7 (.n .own (.pair (.int .i64) (.pair .str (.int .i64)))), .slot 13 (.i .i64)] }, exits := [(.exit 0, { live := [7], lbox := [], vs := [.slot 7 (.n .own (.pair (.int .i64) (.pair .str (.int .i64))))] })] }
  | 1 => some { head := { live := [0, 1, 2, 7, 9, 10, 12, 13], lbox := [(.loc 9)], vs := [.slot 10 (.i .i64)] }, exits := [(.exit 2, { live := [0, 1, 2, 7, 12, 13], lbox := [], vs := [.slot 7 (.l .own (.pair (.int .i64) (.pair .str (.int .i64))))] })] }
  | _ => none
set_option maxRecDepth 100000 in
theorem run32o0_1_2 : ∀ x, gives F32o0_1_2 L32o0_1_2 f32 S32o0_1_2 x = (fun x => bitextref3_Rename_o0_1_2 x.1 x.2.1 x.2.2) x := by
  intro x
  kernel_rfl
theorem fn32o0_1_2 : FnCalls prog 32 (S32o0_1_2.F (fun x => bitextref3_Rename_o0_1_2 x.1 x.2.1 x.2.2)) := fn_sig (F := F32o0_1_2) (tbl := L32o0_1_2) func32 (by kernel_rfl) mix (cok_list (l := [(38, C38), (37, C37o0)]) (tabsT rfl rfl) rfl (List.forall_mem_cons.2 ⟨G38, List.forall_mem_cons.2 ⟨G37o0, by simp⟩⟩)) (by kernel_rfl) (by kernel_rfl) (by decide) (fun _ => by kernel_rfl) run32o0_1_2
def C32o0_1_2 : Con := S32o0_1_2.con (by kernel_rfl) (fun x => bitextref3_Rename_o0_1_2 x.1 x.2.1 x.2.2)
theorem G32o0_1_2 : Good1 prog (32, C32o0_1_2) := good_of func32 (by kernel_rfl) (by kernel_rfl) fn32o0_1_2
end Go.Proofs.Ytakofkfemgoloaa.ve
/- bitext/bitextref3.Canonical -/
namespace Go.Proofs.Ytakofkfemgoloaa.ve
open Go Go.Vs Go.Ve Go.Fn Go.Proofs.Try
set_option linter.unusedVariables false
def F22o0_1 : VFE := { cfg := { N := 24, T := T, R := R, con := fun _ f => lkF f [(30, C30), (31, C31), (32, C32o0_1_2)], var := [0, 1, 2, 3, 4, 5, 6, 7], res := [4, 5], eqs := [] }, keys := [0, 1, 4, 5, 6, 7], bkeys := [] }
def S22o0_1 : Sig := { args := [.one (.n .own (.pair (.int .i64) (.pair .str (.int .i64)))), .one (.n .own (.pair (.int .i64) (.pair .str (.int .i64))))], boxes := [], res := [.one (.n .own (.pair (.int .i64) (.pair .str (.int .i64)))), .one (.n .own (.pair (.int .i64) (.pair .str (.int .i64))))], rbox := [], frz := [] }
def L22o0_1 : Nat → Option LoopRec := fun _ => none
set_option maxRecDepth 100000 in
theorem run22o0_1 : ∀ x, gives F22o0_1 L22o0_1 f22 S22o0_1 x = (fun x => bitextref3_Canonical_o0_1 x.1 x.2) x := by
  intro x
  kernel_rfl
theorem fn22o0_1 : FnCalls prog 22 (S22o0_1.F (fun x => bitextref3_Canonical_o0_1 x.1 x.2)) := fn_sig (F := F22o0_1) (tbl := L22o0_1) func22 (by kernel_rfl) mix (cok_list (l := [(30, C30), (31, C31), (32, C32o0_1_2)]) (tabsT rfl rfl) rfl (List.forall_mem_cons.2 ⟨G30, List.forall_mem_cons.2 ⟨G31, List.forall_mem_cons.2 ⟨G32o0_1_2, by simp⟩⟩⟩)) (by kernel_rfl) (by kernel_rfl) (by decide) (fun _ => by kernel_rfl) run22o0_1
def C22o0_1 : Con := S22o0_1.con (by kernel_rfl) (fun x => bitextref3_Canonical_o0_1 x.1 x.2)
theorem G22o0_1 : Good1 prog (22, C22o0_1) := good_of func22 (by kernel_rfl) (by kernel_rfl) fn22o0_1
end Go.Proofs.Ytakofkfemgoloaa.ve
/- bitext/bitextmake.Entry -/
namespace Go.Proofs.Ytakofkfemgoloaa.ve
open Go Go.Vs Go.Ve Go.Fn Go.Proofs.Try
set_option linter.unusedVariables false
def F11 : VFE := { cfg := { N := 56, T := T, R := R, con := fun _ f => lkF f [(20, C20), (19, C19), (21, C21o1), (22, C22o0_1)], var := [0, 1, 3, 4, 5, 6], res := [], eqs := [] }, keys := [0, 2, 3, 4, 5, 6, 11], bkeys := [.inb 0, .loc 2] }
def S11 : Sig := { args := [.ptr (.inb 0) 0], boxes := [.row (.pair (.sl (.int .i64)) (.int .i64))], res := [.row (.pair (.sl (.pair (.int .i64) (.pair .str (.int .i64)))) (.pair (.sl (.pair (.int .i64) (.pair .str (.int .i64)))) (.pair .str (.pair .str (.pair .str (.pair .str (.pair (.int .i64) (.int .i64))))))))], rbox := [[none, some (.i .i64)]], frz := [] }
def L11 : Nat → Option LoopRec := fun _ => none
set_option maxRecDepth 100000 in
theorem run11 : ∀ x, gives F11 L11 f11 S11 x = (fun x => bitextmake_Entry x) x := by
  intro x
  kernel_rfl
theorem fn11 : FnCalls prog 11 (S11.F (fun x => bitextmake_Entry x)) := fn_sig (F := F11) (tbl := L11) func11 (by kernel_rfl) mix (cok_list (l := [(20, C20), (19, C19), (21, C21o1), (22, C22o0_1)]) (tabsT rfl rfl) rfl (List.forall_mem_cons.2 ⟨G20, List.forall_mem_cons.2 ⟨G19, List.forall_mem_cons.2 ⟨G21o1, List.forall_mem_cons.2 ⟨G22o0_1, by simp⟩⟩⟩⟩)) (by kernel_rfl) (by kernel_rfl) (by decide) (fun _ => by kernel_rfl) run11
def C11 : Con := S11.con (by kernel_rfl) (fun x => bitextmake_Entry x)
theorem G11 : Good1 prog (11, C11) := good_of func11 (by kernel_rfl) (by kernel_rfl) fn11
end Go.Proofs.Ytakofkfemgoloaa.ve
/- bitext/penalty.Points -/
namespace Go.Proofs.Ytakofkfemgoloaa.ve
open Go Go.Vs Go.Ve Go.Fn Go.Proofs.Try
set_option linter.unusedVariables false
def F15o0 : VFE := { cfg := { N := 33, T := T, R := R, con := fun _ f => lkF f [(13, C13)], var := [0, 1, 2, 3, 4, 5, 6, 7, 8, 9], res := [6], eqs := [] }, keys := [0, 1, 2, 4, 6, 7, 9, 10, 11, 12, 13, 24], bkeys := [.loc 4, .loc 9] }
def S15o0 : Sig := { args := [.one (.n .own (.pair (.int .i64) (.pair .str (.pair .str (.pair (.int .i64) (.int .i64)))))), .row (.pair (.sl (.pair (.int .i64) (.pair .str (.int .i64)))) (.pair (.sl (.pair (.int .i64) (.pair .str (.int .i64)))) (.pair .str (.pair .str (.pair .str (.pair .str (.pair (.int .i64) (.int .i64)))))))), .one (.i .i64)], boxes := [], res := [.one (.i .i64)], rbox := [], frz := [] }
def L15o0 : Nat → Option LoopRec := fun n => match n with
  | 0 => some { head := { live := [2, 4, 7, 10, 11, 12], lbox := [(.loc 4)], vs := [.slot 7 (.i .i64), .slot 12 (.i .i64)] }, exits := [(.exit 0, { live := [7], lbox := [], vs := [.slot 7 (.i .i64)] })] }
  | _ => none
set_option maxRecDepth 100000 in
theorem run15o0 : ∀ x, gives F15o0 L15o0 f15 S15o0 x = (fun x => penalty_Points_o0 x.1 x.2.1 x.2.2) x := by
  intro x
  kernel_rfl
theorem fn15o0 : FnCalls prog 15 (S15o0.F (fun x => penalty_Points_o0 x.1 x.2.1 x.2.2)) := fn_sig (F := F15o0) (tbl := L15o0) func15 (by kernel_rfl) mix (cok_list (l := [(13, C13)]) (tabsT rfl rfl) rfl (List.forall_mem_cons.2 ⟨G13, by simp⟩)) (by kernel_rfl) (by kernel_rfl) (by decide) (fun _ => by kernel_rfl) run15o0
def C15o0 : Con := S15o0.con (by kernel_rfl) (fun x => penalty_Points_o0 x.1 x.2.1 x.2.2)
theorem G15o0 : Good1 prog (15, C15o0) := good_of func15 (by kernel_rfl) (by kernel_rfl) fn15o0
end Go.Proofs.Ytakofkfemgoloaa.ve
/- bitext/bitextlaw17.PenaltyMatters -/
namespace Go.Proofs.Ytakofkfemgoloaa.ve
open Go Go.Vs Go.Ve Go.Fn Go.Proofs.Try
set_option linter.unusedVariables false
def F6 : VFE := { cfg := { N := 80, T := T, R := R, con := fun _ f => lkF f [(9, C9), (10, C10), (11, C11), (12, C12), (13, C13), (15, C15o0)], var := [0, 1, 2, 3, 8, 9, 11, 12, 13, 14], res := [8], eqs := [] }, keys := [0, 1, 2, 3, 8, 9, 10, 11, 12, 13, 14, 22, 35, 36, 37], bkeys := [.loc 10, .loc 26, .loc 30] }
def S6 : Sig := { args := [.one (.n .data (.int .i64)), .one (.n .data (.int .i64)), .one (.i .i64), .one (.i .i64)], boxes := [], res := [.one .b], rbox := [], frz := [] }
def L6 : Nat → Option LoopRec := fun n => match n with
  | 0 => some { head := { live := [3, 9, 10, 11, 12, 35, 36], lbox := [(.loc 10)], vs := [.slot 12 .b, .slot 36 (.i .i64)] }, exits := [(.exit 0, { live := [3, 9, 10, 11, 12], lbox := [(.loc 10)], vs := [.slot 12 .b] })] }
  | _ => none
set_option maxRecDepth 100000 in
theorem run6 : ∀ x, gives F6 L6 f6 S6 x = (fun x => bitextlaw17_PenaltyMatters x.1 x.2.1 x.2.2.1 x.2.2.2) x := by
  intro x
  kernel_rfl
theorem fn6 : FnCalls prog 6 (S6.F (fun x => bitextlaw17_PenaltyMatters x.1 x.2.1 x.2.2.1 x.2.2.2)) := fn_sig (F := F6) (tbl := L6) func6 (by kernel_rfl) mix (cok_list (l := [(9, C9), (10, C10), (11, C11), (12, C12), (13, C13), (15, C15o0)]) (tabsT rfl rfl) rfl (List.forall_mem_cons.2 ⟨G9, List.forall_mem_cons.2 ⟨G10, List.forall_mem_cons.2 ⟨G11, List.forall_mem_cons.2 ⟨G12, List.forall_mem_cons.2 ⟨G13, List.forall_mem_cons.2 ⟨G15o0, by simp⟩⟩⟩⟩⟩⟩)) (by kernel_rfl) (by kernel_rfl) (by decide) (fun _ => by kernel_rfl) run6
def C6 : Con := S6.con (by kernel_rfl) (fun x => bitextlaw17_PenaltyMatters x.1 x.2.1 x.2.2.1 x.2.2.2)
theorem G6 : Good1 prog (6, C6) := good_of func6 (by kernel_rfl) (by kernel_rfl) fn6
end Go.Proofs.Ytakofkfemgoloaa.ve
/- The law PenaltyMatters holds. -/
namespace Go.Proofs.Ytakofkfemgoloaa.penaltyMatters
open Go Go.ChangeShapes Go.WideShapes Go.ChangeAt Go.RowKit Go.Vs Go.Ve Go.Fn Go.Proofs.Ytakofkfemgoloaa.ve
set_option linter.unusedVariables false
theorem own : ownKnob Try.prog.godebug = none := by kernel_rfl
def B (H : Type) : Bulk H where
  one := Rows.uptoBulk
  all := Rows.uptoBulkAll
  str := fun _ => by simp only [Rows.uptoBulk]
  slice := fun _ _ => by simp only [Rows.uptoBulk]
  agg := fun _ => by simp only [Rows.uptoBulk]
  pos := fun d => by
    cases d with
    | lit l => cases l <;> simp only [Rows.uptoBulk] <;> omega
    | _ => simp only [Rows.uptoBulk] <;> omega
  nil := by simp only [Rows.uptoBulkAll]
  cons := fun _ _ => by simp only [Rows.uptoBulkAll]
theorem contract (H : Type) (enc : TypeId × Value → H) (W : World) (base : Nat) (args : Array Value) (ds gs : List (DataW H)) (before : List MemPlace)
    (hval : ∀ (j : Nat) t v, Try.f6.params[j]? = some t → args[j]? = some v → Value.okWide Try.prog W .any base t v)
    (hW : DataW.Whole enc Try.prog Try.f6.params.toList Rows.penaltyMattersSpec.vars false W args.toList ds gs before) (hk : Rows.uptoSmall H (ds ++ gs) = true) :
    Calls Try.prog 6 args W fun e W' => ∃ v, e = .returned v ∧ Rows.penaltyMattersSpec.post enc Try.prog Try.f6 false true false false W args v W' :=
  law_typed (cfg := F6.cfg.c) (l := S6.args) (n := 20) (m := 1048576) (ts := Try.f6.params.toList) (sp := Rows.penaltyMattersSpec) (by kernel_rfl) fn6 (tabsT rfl rfl) rfl rfl (tb := 4) (by kernel_rfl) (by kernel_rfl)
    (by kernel_rfl) (by
      intro t ht
      exact List.all_eq_true.1 (by kernel_rfl : Try.f6.params.toList.all (fun t => plainT F6.cfg.c 20 t) = true) t ht) (by kernel_rfl)
    (by
      intro t ht
      have := List.all_eq_true.1 (by kernel_rfl : Try.f6.params.toList.all (fun t => Try.prog.readableRec t && Nat.blt t Try.prog.types.size) = true) t ht
      rw [Bool.and_eq_true, Nat.blt_eq] at this
      exact this) (B H) (Nat.le_trans (bulk_append (B H) ds gs) (of_decide_eq_true hk))
    (fun x hw hb => ⟨x, rfl, matters_holds x.1 x.2.1 x.2.2.1 x.2.2.2 (Wf_ints hw.1) (Wf_ints hw.2.1) hw.2.2.1 hw.2.2.2.1⟩)
    (fun ds h => by
      match ds, h with
      | [d1, d2, d3, d4], _ => rfl)
    hval hW
set_option maxRecDepth 100000 in
theorem lifted (os : Os) (started : os.Started) (H : Type) (enc : TypeId × Value → H) (F : Stop.Interp) :
    ReturnsInHanded {} Try.checked os 6 .any ((Rows.OpenSpec.upto Rows.penaltyMattersSpec).pre6 enc Try.prog Try.f6 Rows.penaltyMattersUptoRow.domain false) (((Rows.OpenSpec.upto Rows.penaltyMattersSpec).at F).post enc Try.prog Try.f6 false true false false) := by
  refine returnsInHanded_of_cond (C := Try.checked) (s := Rows.OpenSpec.upto Rows.penaltyMattersSpec) (k := Rows.uptoSmall) rfl own started (by kernel_rfl) Try.func6
    (OpenSpec.witness (enc := enc) (C := Try.checked) (s := Rows.OpenSpec.upto Rows.penaltyMattersSpec) (k := Rows.uptoSmall) rfl false ⟨#[], #[.slice none 0 0, .slice none 0 0, .int .i64 0, .int .i64 0], []⟩ 8 (by kernel_rfl) (by kernel_rfl) (by kernel_rfl)
      (x := ([.nil, .nil, .lit (.int .i64 0), .lit (.int .i64 0)], [], [])) (by kernel_rfl) rfl (by kernel_rfl)) ?_
  intro W base args ds gs before hval hW _ hk _
  exact contract H enc W base args ds gs before hval hW hk
theorem over : Rows.penaltyMattersUptoRow.holds Try.pinned (Rows.OpenSpec.upto Rows.penaltyMattersSpec) :=
  OpenClaim.holds_of_cond 6 Try.f6 rfl rfl rfl rfl rfl rfl rfl ⟨rfl, rfl, rfl, rfl, rfl⟩ rfl rfl rfl rfl rfl (by kernel_rfl) Try.func6 (by kernel_rfl)
    (of_decide_eq_true (by kernel_rfl)) (by unfold Func.isWrapper; first | (rw [if_pos (by decide +kernel)]; kernel_rfl) | (rw [if_neg (by decide +kernel)]; exact ⟨rfl, rfl⟩))
    (fun os started H enc _ F => lifted os started H enc F)
theorem proved : Rows.PenaltyMattersUptoSaid :=
  over
end Go.Proofs.Ytakofkfemgoloaa.penaltyMatters
#print axioms Go.Proofs.Ytakofkfemgoloaa.penaltyMatters.proved
