/- The statement HistoryInvertsUptoSaid of the given program is proved here: for every input whose bulk is at most the bound of its row, the law returns true and changes nothing. Part 6 of 6. -/
import Derived.Test.YtdgpppkmlmbjoaaChecked
import Derived.KernelRfl
import Derived.RangeFuncNested
import Derived.RangeFuncBound
import Derived.RangeFuncCalls
import Derived.RangeFuncLeaves
import Derived.RangeFuncBox
import Derived.Shelf.Abstract
import Derived.Shelf.RegionOpen
import Derived.WalkKit
import Derived.OwnWalkIn
import Derived.TacticsInMore
import Derived.LoopNIn
import Derived.LoopIn
import Derived.Test.YtdgpppkmlmbjoaaRows
import Derived.JoinedCond
import Derived.Test.YtdgpppkmlmbjoaaV5
/- The seat's types. -/
namespace Go.Proofs.Ytdgpppkmlmbjoaa.ve
open Go Go.Vs Go.Ve Go.Fn Go.Proofs.Try
def T : List (TypeId × TI) := [(3, ⟨1, 8, .int .i64, (some [.int .i64 0])⟩),
  (4, ⟨1, 1, .bool, (some [.bool false])⟩),
  (9, ⟨1, 16, .str, (some [.str []])⟩),
  (22, ⟨1, 24, .slice 30, (some [.nil])⟩),
  (25, ⟨2, 16, .struct [(0, 3), (1, 3)], (some [.int .i64 0, .int .i64 0])⟩),
  (26, ⟨1, 24, .slice 67, (some [.nil])⟩),
  (28, ⟨10, 104, .struct [(0, 3), (1, 3), (2, 3), (3, 25), (5, 3), (6, 26), (7, 9), (8, 3), (9, 4)], (some [.int .i64 0, .int .i64 0, .int .i64 0, .int .i64 0, .int .i64 0, .int .i64 0, .nil, .str [], .int .i64 0, .bool false])⟩),
  (30, ⟨23, 240, .struct [(0, 28), (10, 28), (20, 9), (21, 3), (22, 4)], (some [.int .i64 0, .int .i64 0, .int .i64 0, .int .i64 0, .int .i64 0, .int .i64 0, .nil, .str [], .int .i64 0, .bool false, .int .i64 0, .int .i64 0, .int .i64 0, .int .i64 0, .int .i64 0, .int .i64 0, .nil, .str [], .int .i64 0, .bool false, .str [], .int .i64 0, .bool false])⟩),
  (31, ⟨1, 8, .int .i64, (some [.int .i64 0])⟩),
  (36, ⟨1, 24, .slice 3, (some [.nil])⟩),
  (39, ⟨1, 8, .ptr 63, (some [.nul .ptr])⟩),
  (44, ⟨1, 24, .slice 22, (some [.nil])⟩),
  (59, ⟨1, 8, .func, (some [.nul .func])⟩),
  (61, ⟨1, 24, .slice 36, (some [.nil])⟩),
  (63, ⟨2, 32, .struct [(0, 36), (1, 3)], (some [.nil, .int .i64 0])⟩),
  (64, ⟨1, 24, .slice 9, (some [.nil])⟩),
  (67, ⟨3, 32, .struct [(0, 3), (1, 9), (2, 3)], (some [.int .i64 0, .str [], .int .i64 0])⟩),
  (74, ⟨1, 8, .func, (some [.nul .func])⟩),
  (76, ⟨1, 8, .func, (some [.nul .func])⟩)]
def R : List (TypeId × Ty) := [(3, (.int .i64)),
  (4, .bool),
  (9, .str),
  (22, (.sl (.pair (.pair (.int .i64) (.pair (.int .i64) (.pair (.int .i64) (.pair (.pair (.int .i64) (.int .i64)) (.pair (.int .i64) (.pair (.sl (.pair (.int .i64) (.pair .str (.int .i64)))) (.pair .str (.pair (.int .i64) .bool)))))))) (.pair (.pair (.int .i64) (.pair (.int .i64) (.pair (.int .i64) (.pair (.pair (.int .i64) (.int .i64)) (.pair (.int .i64) (.pair (.sl (.pair (.int .i64) (.pair .str (.int .i64)))) (.pair .str (.pair (.int .i64) .bool)))))))) (.pair .str (.pair (.int .i64) .bool)))))),
  (25, (.pair (.int .i64) (.int .i64))),
  (26, (.sl (.pair (.int .i64) (.pair .str (.int .i64))))),
  (28, (.pair (.int .i64) (.pair (.int .i64) (.pair (.int .i64) (.pair (.pair (.int .i64) (.int .i64)) (.pair (.int .i64) (.pair (.sl (.pair (.int .i64) (.pair .str (.int .i64)))) (.pair .str (.pair (.int .i64) .bool))))))))),
  (30, (.pair (.pair (.int .i64) (.pair (.int .i64) (.pair (.int .i64) (.pair (.pair (.int .i64) (.int .i64)) (.pair (.int .i64) (.pair (.sl (.pair (.int .i64) (.pair .str (.int .i64)))) (.pair .str (.pair (.int .i64) .bool)))))))) (.pair (.pair (.int .i64) (.pair (.int .i64) (.pair (.int .i64) (.pair (.pair (.int .i64) (.int .i64)) (.pair (.int .i64) (.pair (.sl (.pair (.int .i64) (.pair .str (.int .i64)))) (.pair .str (.pair (.int .i64) .bool)))))))) (.pair .str (.pair (.int .i64) .bool))))),
  (31, (.int .i64)),
  (36, (.sl (.int .i64))),
  (44, (.sl (.sl (.pair (.pair (.int .i64) (.pair (.int .i64) (.pair (.int .i64) (.pair (.pair (.int .i64) (.int .i64)) (.pair (.int .i64) (.pair (.sl (.pair (.int .i64) (.pair .str (.int .i64)))) (.pair .str (.pair (.int .i64) .bool)))))))) (.pair (.pair (.int .i64) (.pair (.int .i64) (.pair (.int .i64) (.pair (.pair (.int .i64) (.int .i64)) (.pair (.int .i64) (.pair (.sl (.pair (.int .i64) (.pair .str (.int .i64)))) (.pair .str (.pair (.int .i64) .bool)))))))) (.pair .str (.pair (.int .i64) .bool))))))),
  (61, (.sl (.sl (.int .i64)))),
  (63, (.pair (.sl (.int .i64)) (.int .i64))),
  (64, (.sl .str)),
  (67, (.pair (.int .i64) (.pair .str (.int .i64))))]
def AllP {α : Type} (p : α → Prop) : List α → Prop
  | [] => True
  | a :: r => p a ∧ AllP p r
theorem AllP.mem {α : Type} {p : α → Prop} : ∀ {l : List α}, AllP p l → ∀ x ∈ l, p x
  | _ :: _, h, _, .head _ => h.1
  | _ :: _, h, _, .tail _ hx => AllP.mem h.2 _ hx
theorem T_ok : AllP (fun x => tiOf prog x.1 = some x.2) T := ⟨by show tiOf prog _ = some _; kernel_rfl, by show tiOf prog _ = some _; kernel_rfl, by show tiOf prog _ = some _; kernel_rfl, by show tiOf prog _ = some _; kernel_rfl, by show tiOf prog _ = some _; kernel_rfl, by show tiOf prog _ = some _; kernel_rfl, by show tiOf prog _ = some _; kernel_rfl, by show tiOf prog _ = some _; kernel_rfl, by show tiOf prog _ = some _; kernel_rfl, by show tiOf prog _ = some _; kernel_rfl, by show tiOf prog _ = some _; kernel_rfl, by show tiOf prog _ = some _; kernel_rfl, by show tiOf prog _ = some _; kernel_rfl, by show tiOf prog _ = some _; kernel_rfl, by show tiOf prog _ = some _; kernel_rfl, by show tiOf prog _ = some _; kernel_rfl, by show tiOf prog _ = some _; kernel_rfl, by show tiOf prog _ = some _; kernel_rfl, by show tiOf prog _ = some _; kernel_rfl, trivial⟩
theorem lk_mem {α : Type} {t : Nat} {v : α} : ∀ {l : List (Nat × α)}, lk t l = some v → (t, v) ∈ l
  | (u, w) :: l, h => by
    unfold lk at h
    split at h
    · rename_i e; cases h; subst e; simp
    · exact List.mem_cons_of_mem _ (lk_mem h)
def EQ : List (TypeId × List Sc) := [(25, [.int .i64, .int .i64]), (67, [.int .i64, .str, .int .i64])]
theorem EQ_ok : AllP (fun x => EqOk prog x.1 x.2) EQ := ⟨eqOk_flat (by kernel_rfl) (by kernel_rfl) (by kernel_rfl) (by kernel_rfl), eqOk_flat (by kernel_rfl) (by kernel_rfl) (by kernel_rfl) (by kernel_rfl), trivial⟩
theorem tabsT {cfg : Cfg} (h : cfg.T = T) (he : (cfg.eqs == [] || cfg.eqs == EQ) = true) : Tabs prog cfg :=
  ⟨fun t i hi => AllP.mem T_ok (t, i) (lk_mem (by rw [← h]; exact hi)), fun t sh ht => by
    rw [Bool.or_eq_true, beq_iff_eq, beq_iff_eq] at he
    rcases he with he | he
    · rw [he] at ht; cases ht
    · rw [he] at ht; exact AllP.mem EQ_ok (t, sh) (lk_mem ht)⟩
theorem mix : prog.follows .mixedOrders = true := by kernel_rfl
end Go.Proofs.Ytdgpppkmlmbjoaa.ve
/- bitext/bitextlaw30.long -/
namespace Go.Proofs.Ytdgpppkmlmbjoaa.ve
open Go Go.Vs Go.Ve Go.Fn Go.Proofs.Try
set_option linter.unusedVariables false
def F12 : VFE := { cfg := { N := 19, T := T, R := R, con := fun _ f => lkF f [], var := [0, 1, 2, 3, 4, 5], res := [2], eqs := EQ }, keys := [0, 2, 3, 5, 6, 7, 8, 9], bkeys := [] }
def S12 : Sig := { args := [.one (.n .data (.sl (.int .i64)))], boxes := [], res := [.one .b], rbox := [], frz := [] }
def L12 : Nat → Option LoopRec := fun n => match n with
  | 0 => some { head := { live := [3, 6, 7, 8], lbox := [], vs := [.slot 3 (.i .i64), .slot 8 (.i .i64)] }, exits := [(.exit 0, { live := [3], lbox := [], vs := [.slot 3 (.i .i64)] })] }
  | _ => none
set_option maxRecDepth 100000 in
theorem run12 : ∀ x, gives F12 L12 f12 S12 x = (fun x => bitextlaw30_long x) x := by
  intro x
  kernel_rfl
theorem fn12 : FnCalls prog 12 (S12.F (fun x => bitextlaw30_long x)) := fn_sig (F := F12) (tbl := L12) func12 (by kernel_rfl) mix (cok_list (l := []) (tabsT rfl rfl) rfl (by simp)) (by kernel_rfl) (by kernel_rfl) (by decide) (fun _ => by kernel_rfl) run12
def C12 : Con := S12.con (by kernel_rfl) (fun x => bitextlaw30_long x)
theorem G12 : Good1 prog (12, C12) := good_of func12 (by kernel_rfl) (by kernel_rfl) fn12
end Go.Proofs.Ytdgpppkmlmbjoaa.ve
/- bitext/bitextlaw30.draft -/
namespace Go.Proofs.Ytdgpppkmlmbjoaa.ve
open Go Go.Vs Go.Ve Go.Fn Go.Proofs.Try
set_option linter.unusedVariables false
def F34 : VFE := { cfg := { N := 11, T := T, R := R, con := fun _ f => lkF f [], var := [0, 1, 2, 3], res := [], eqs := EQ, outd := true }, keys := [0, 1, 4], bkeys := [.loc 4] }
def S34 : Sig := { args := [.one (.i .i64), .one .s], boxes := [], res := [.row (.pair (.int .i64) (.pair (.int .i64) (.pair (.int .i64) (.pair (.pair (.int .i64) (.int .i64)) (.pair (.int .i64) (.pair (.sl (.pair (.int .i64) (.pair .str (.int .i64)))) (.pair .str (.pair (.int .i64) .bool))))))))], rbox := [], frz := [] }
def L34 : Nat → Option LoopRec := fun _ => none
set_option maxRecDepth 100000 in
theorem run34 : ∀ x, gives F34 L34 f34 S34 x = (fun x => bitextlaw30_draft x.1 x.2) x := by
  intro x
  kernel_rfl
theorem fn34 : FnCalls prog 34 (S34.F (fun x => bitextlaw30_draft x.1 x.2)) := fn_sig (F := F34) (tbl := L34) func34 (by kernel_rfl) mix (cok_list (l := []) (tabsT rfl rfl) rfl (by simp)) (by kernel_rfl) (by kernel_rfl) (by decide) (fun _ => by kernel_rfl) run34
def C34 : Con := S34.con (by kernel_rfl) (fun x => bitextlaw30_draft x.1 x.2)
theorem G34 : Good1 prog (34, C34) := good_of func34 (by kernel_rfl) (by kernel_rfl) fn34
end Go.Proofs.Ytdgpppkmlmbjoaa.ve
/- slices.Clone[[]bitext/api.Item,bitext/api.Item] -/
namespace Go.Proofs.Ytdgpppkmlmbjoaa.ve
open Go Go.Vs Go.Ve Go.Fn Go.Proofs.Try
set_option linter.unusedVariables false
def F43 : VFE := { cfg := { N := 8, T := T, R := R, con := fun _ f => lkF f [], var := [0, 1, 2], res := [2], eqs := EQ }, keys := [0, 2, 4], bkeys := [] }
def S43 : Sig := { args := [.one (.n .data (.pair (.int .i64) (.pair .str (.int .i64))))], boxes := [], res := [.one (.n .own (.pair (.int .i64) (.pair .str (.int .i64))))], rbox := [], frz := [] }
def L43 : Nat → Option LoopRec := fun _ => none
set_option maxRecDepth 100000 in
theorem run43 : ∀ x, gives F43 L43 f43 S43 x = (fun x => slices_Clone_api_Item x) x := by
  intro x
  kernel_rfl
theorem fn43 : FnCalls prog 43 (S43.F (fun x => slices_Clone_api_Item x)) := fn_sig (F := F43) (tbl := L43) func43 (by kernel_rfl) mix (cok_list (l := []) (tabsT rfl rfl) rfl (by simp)) (by kernel_rfl) (by kernel_rfl) (by decide) (fun _ => by kernel_rfl) run43
def C43 : Con := S43.con (by kernel_rfl) (fun x => slices_Clone_api_Item x)
theorem G43 : Good1 prog (43, C43) := good_of func43 (by kernel_rfl) (by kernel_rfl) fn43
end Go.Proofs.Ytdgpppkmlmbjoaa.ve
/- bitext/view.Segment -/
namespace Go.Proofs.Ytdgpppkmlmbjoaa.ve
open Go Go.Vs Go.Ve Go.Fn Go.Proofs.Try
set_option linter.unusedVariables false
def F37 : VFE := { cfg := { N := 8, T := T, R := R, con := fun _ f => lkF f [(43, C43)], var := [0, 1], res := [], eqs := EQ }, keys := [0, 1, 2], bkeys := [.loc 1, .loc 2] }
def S37 : Sig := { args := [.row (.pair (.int .i64) (.pair (.int .i64) (.pair (.int .i64) (.pair (.pair (.int .i64) (.int .i64)) (.pair (.int .i64) (.pair (.sl (.pair (.int .i64) (.pair .str (.int .i64)))) (.pair .str (.pair (.int .i64) .bool))))))))], boxes := [], res := [.row (.pair (.int .i64) (.pair (.int .i64) (.pair (.int .i64) (.pair (.pair (.int .i64) (.int .i64)) (.pair (.int .i64) (.pair (.sl (.pair (.int .i64) (.pair .str (.int .i64)))) (.pair .str (.pair (.int .i64) .bool))))))))], rbox := [], frz := [] }
def L37 : Nat → Option LoopRec := fun _ => none
set_option maxRecDepth 100000 in
theorem run37 : ∀ x, gives F37 L37 f37 S37 x = (fun x => view_Segment x) x := by
  intro x
  kernel_rfl
theorem fn37 : FnCalls prog 37 (S37.F (fun x => view_Segment x)) := fn_sig (F := F37) (tbl := L37) func37 (by kernel_rfl) mix (cok_list (l := [(43, C43)]) (tabsT rfl rfl) rfl (List.forall_mem_cons.2 ⟨G43, by simp⟩)) (by kernel_rfl) (by kernel_rfl) (by decide) (fun _ => by kernel_rfl) run37
def C37 : Con := S37.con (by kernel_rfl) (fun x => view_Segment x)
theorem G37 : Good1 prog (37, C37) := good_of func37 (by kernel_rfl) (by kernel_rfl) fn37
end Go.Proofs.Ytdgpppkmlmbjoaa.ve
/- bitext/history.step -/
namespace Go.Proofs.Ytdgpppkmlmbjoaa.ve
open Go Go.Vs Go.Ve Go.Fn Go.Proofs.Try
set_option linter.unusedVariables false
def F42 : VFE := { cfg := { N := 12, T := T, R := R, con := fun _ f => lkF f [(37, C37)], var := [0, 1], res := [], eqs := EQ }, keys := [0, 1, 2], bkeys := [.loc 1, .loc 2] }
def S42 : Sig := { args := [.row (.pair (.pair (.int .i64) (.pair (.int .i64) (.pair (.int .i64) (.pair (.pair (.int .i64) (.int .i64)) (.pair (.int .i64) (.pair (.sl (.pair (.int .i64) (.pair .str (.int .i64)))) (.pair .str (.pair (.int .i64) .bool)))))))) (.pair (.pair (.int .i64) (.pair (.int .i64) (.pair (.int .i64) (.pair (.pair (.int .i64) (.int .i64)) (.pair (.int .i64) (.pair (.sl (.pair (.int .i64) (.pair .str (.int .i64)))) (.pair .str (.pair (.int .i64) .bool)))))))) (.pair .str (.pair (.int .i64) .bool))))], boxes := [], res := [.row (.pair (.pair (.int .i64) (.pair (.int .i64) (.pair (.int .i64) (.pair (.pair (.int .i64) (.int .i64)) (.pair (.int .i64) (.pair (.sl (.pair (.int .i64) (.pair .str (.int .i64)))) (.pair .str (.pair (.int .i64) .bool)))))))) (.pair (.pair (.int .i64) (.pair (.int .i64) (.pair (.int .i64) (.pair (.pair (.int .i64) (.int .i64)) (.pair (.int .i64) (.pair (.sl (.pair (.int .i64) (.pair .str (.int .i64)))) (.pair .str (.pair (.int .i64) .bool)))))))) (.pair .str (.pair (.int .i64) .bool))))], rbox := [], frz := [] }
def L42 : Nat → Option LoopRec := fun _ => none
set_option maxRecDepth 100000 in
theorem run42 : ∀ x, gives F42 L42 f42 S42 x = (fun x => history_step x) x := by
  intro x
  kernel_rfl
theorem fn42 : FnCalls prog 42 (S42.F (fun x => history_step x)) := fn_sig (F := F42) (tbl := L42) func42 (by kernel_rfl) mix (cok_list (l := [(37, C37)]) (tabsT rfl rfl) rfl (List.forall_mem_cons.2 ⟨G37, by simp⟩)) (by kernel_rfl) (by kernel_rfl) (by decide) (fun _ => by kernel_rfl) run42
def C42 : Con := S42.con (by kernel_rfl) (fun x => history_step x)
theorem G42 : Good1 prog (42, C42) := good_of func42 (by kernel_rfl) (by kernel_rfl) fn42
end Go.Proofs.Ytdgpppkmlmbjoaa.ve
/- bitext/history.Record$1 -/
namespace Go.Proofs.Ytdgpppkmlmbjoaa.ve
open Go Go.Vs Go.Ve Go.Fn Go.Proofs.Try
set_option linter.unusedVariables false
def F33 : VFE := { cfg := { N := 14, T := T, R := R, con := fun _ f => lkF f [], var := [0, 2, 3], res := [3], eqs := EQ }, keys := [0, 1, 2, 3], bkeys := [.inb 0, .loc 2] }
def S33 : Sig := { args := [.row (.pair (.pair (.int .i64) (.pair (.int .i64) (.pair (.int .i64) (.pair (.pair (.int .i64) (.int .i64)) (.pair (.int .i64) (.pair (.sl (.pair (.int .i64) (.pair .str (.int .i64)))) (.pair .str (.pair (.int .i64) .bool)))))))) (.pair (.pair (.int .i64) (.pair (.int .i64) (.pair (.int .i64) (.pair (.pair (.int .i64) (.int .i64)) (.pair (.int .i64) (.pair (.sl (.pair (.int .i64) (.pair .str (.int .i64)))) (.pair .str (.pair (.int .i64) .bool)))))))) (.pair .str (.pair (.int .i64) .bool)))), .ptr (.inb 0) 0], boxes := [.row (.int .i64)], res := [.one .b], rbox := [[none]], frz := [] }
def L33 : Nat → Option LoopRec := fun _ => none
set_option maxRecDepth 100000 in
theorem run33 : ∀ x, gives F33 L33 f33 S33 x = (fun x => history_Record_1 x.1 x.2) x := by
  intro x
  kernel_rfl
theorem fn33 : FnCalls prog 33 (S33.F (fun x => history_Record_1 x.1 x.2)) := fn_sig (F := F33) (tbl := L33) func33 (by kernel_rfl) mix (cok_list (l := []) (tabsT rfl rfl) rfl (by simp)) (by kernel_rfl) (by kernel_rfl) (by decide) (fun _ => by kernel_rfl) run33
def C33 : Con := S33.con (by kernel_rfl) (fun x => history_Record_1 x.1 x.2)
theorem G33 : Good1 prog (33, C33) := good_of func33 (by kernel_rfl) (by kernel_rfl) fn33
end Go.Proofs.Ytdgpppkmlmbjoaa.ve
/- bitext/history.only -/
namespace Go.Proofs.Ytdgpppkmlmbjoaa.ve
open Go Go.Vs Go.Ve Go.Fn Go.Proofs.Try
set_option linter.unusedVariables false
def F32r : VFE := { cfg := { N := 24, T := T, R := R, con := fun _ f => lkF f [(42, C42), (33, C33)], var := [0, 1, 2, 3, 4, 5, 6, 7], res := [4], eqs := EQ }, keys := [0, 1, 4, 5, 7, 8, 9, 10, 11, 16], bkeys := [.inb 0, .loc 7] }
def S32r : Sig := { args := [.one (.n .data (.pair (.pair (.int .i64) (.pair (.int .i64) (.pair (.int .i64) (.pair (.pair (.int .i64) (.int .i64)) (.pair (.int .i64) (.pair (.sl (.pair (.int .i64) (.pair .str (.int .i64)))) (.pair .str (.pair (.int .i64) .bool)))))))) (.pair (.pair (.int .i64) (.pair (.int .i64) (.pair (.int .i64) (.pair (.pair (.int .i64) (.int .i64)) (.pair (.int .i64) (.pair (.sl (.pair (.int .i64) (.pair .str (.int .i64)))) (.pair .str (.pair (.int .i64) .bool)))))))) (.pair .str (.pair (.int .i64) .bool))))), .clo 33 [(.inb 0, 0)]], boxes := [.row (.int .i64)], res := [.one (.n .own (.pair (.pair (.int .i64) (.pair (.int .i64) (.pair (.int .i64) (.pair (.pair (.int .i64) (.int .i64)) (.pair (.int .i64) (.pair (.sl (.pair (.int .i64) (.pair .str (.int .i64)))) (.pair .str (.pair (.int .i64) .bool)))))))) (.pair (.pair (.int .i64) (.pair (.int .i64) (.pair (.int .i64) (.pair (.pair (.int .i64) (.int .i64)) (.pair (.int .i64) (.pair (.sl (.pair (.int .i64) (.pair .str (.int .i64)))) (.pair .str (.pair (.int .i64) .bool)))))))) (.pair .str (.pair (.int .i64) .bool)))))], rbox := [[none]], frz := [] }
def L32r : Nat → Option LoopRec := fun n => match n with
  | 0 => some { head := { live := [1, 5, 8, 9, 10], lbox := [(.inb 0)], vs := [.slot 5 (.n .own (.pair (.pair (.int .i64) (.pair (.int .i64) (.pair (.int .i64) (.pair (.pair (.int .i64) (.int .i64)) (.pair (.int .i64) (.pair (.sl (.pair (.int .i64) (.pair .str (.int .i64)))) (.pair .str (.pair (.int .i64) .bool)))))))) (.pair (.pair (.int .i64) (.pair (.int .i64) (.pair (.int .i64) (.pair (.pair (.int .i64) (.int .i64)) (.pair (.int .i64) (.pair (.sl (.pair (.int .i64) (.pair .str (.int .i64)))) (.pair .str (.pair (.int .i64) .bool)))))))) (.pair .str (.pair (.int .i64) .bool))))), .slot 10 (.i .i64)] }, exits := [(.exit 0, { live := [5], lbox := [(.inb 0)], vs := [.slot 5 (.n .own (.pair (.pair (.int .i64) (.pair (.int .i64) (.pair (.int .i64) (.pair (.pair (.int .i64) (.int .i64)) (.pair (.int .i64) (.pair (.sl (.pair (.int .i64) (.pair .str (.int .i64)))) (.pair .str (.pair (.int .i64) .bool)))))))) (.pair (.pair (.int .i64) (.pair (.int .i64) (.pair (.int .i64) (.pair (.pair (.int .i64) (.int .i64)) (.pair (.int .i64) (.pair (.sl (.pair (.int .i64) (.pair .str (.int .i64)))) (.pair .str (.pair (.int .i64) .bool)))))))) (.pair .str (.pair (.int .i64) .bool)))))] })] }
  | _ => none
set_option maxRecDepth 100000 in
theorem run32r : ∀ x, gives F32r L32r f32 S32r x = (fun x => history_only_r x.1 x.2) x := by
  intro x
  kernel_rfl
theorem fn32r : FnCalls prog 32 (S32r.F (fun x => history_only_r x.1 x.2)) := fn_sig (F := F32r) (tbl := L32r) func32 (by kernel_rfl) mix (cok_list (l := [(42, C42), (33, C33)]) (tabsT rfl rfl) rfl (List.forall_mem_cons.2 ⟨G42, List.forall_mem_cons.2 ⟨G33, by simp⟩⟩)) (by kernel_rfl) (by kernel_rfl) (by decide) (fun _ => by kernel_rfl) run32r
def C32r : Con := S32r.con (by kernel_rfl) (fun x => history_only_r x.1 x.2)
theorem G32r : Good1 prog (32, C32r) := good_of func32 (by kernel_rfl) (by kernel_rfl) fn32r
end Go.Proofs.Ytdgpppkmlmbjoaa.ve
/- bitext/history.Plain -/
namespace Go.Proofs.Ytdgpppkmlmbjoaa.ve
open Go Go.Vs Go.Ve Go.Fn Go.Proofs.Try
set_option linter.unusedVariables false
def F22 : VFE := { cfg := { N := 11, T := T, R := R, con := fun _ f => lkF f [(37, C37)], var := [0, 1], res := [], eqs := EQ }, keys := [0, 1, 2, 5], bkeys := [.loc 1, .loc 2] }
def S22 : Sig := { args := [.row (.pair (.int .i64) (.pair (.int .i64) (.pair (.int .i64) (.pair (.pair (.int .i64) (.int .i64)) (.pair (.int .i64) (.pair (.sl (.pair (.int .i64) (.pair .str (.int .i64)))) (.pair .str (.pair (.int .i64) .bool))))))))], boxes := [], res := [.row (.pair (.int .i64) (.pair (.int .i64) (.pair (.int .i64) (.pair (.pair (.int .i64) (.int .i64)) (.pair (.int .i64) (.pair (.sl (.pair (.int .i64) (.pair .str (.int .i64)))) (.pair .str (.pair (.int .i64) .bool))))))))], rbox := [], frz := [] }
def L22 : Nat → Option LoopRec := fun _ => none
set_option maxRecDepth 100000 in
theorem run22 : ∀ x, gives F22 L22 f22 S22 x = (fun x => history_Plain x) x := by
  intro x
  kernel_rfl
theorem fn22 : FnCalls prog 22 (S22.F (fun x => history_Plain x)) := fn_sig (F := F22) (tbl := L22) func22 (by kernel_rfl) mix (cok_list (l := [(37, C37)]) (tabsT rfl rfl) rfl (List.forall_mem_cons.2 ⟨G37, by simp⟩)) (by kernel_rfl) (by kernel_rfl) (by decide) (fun _ => by kernel_rfl) run22
def C22 : Con := S22.con (by kernel_rfl) (fun x => history_Plain x)
theorem G22 : Good1 prog (22, C22) := good_of func22 (by kernel_rfl) (by kernel_rfl) fn22
end Go.Proofs.Ytdgpppkmlmbjoaa.ve
/- bitext/history.Record -/
namespace Go.Proofs.Ytdgpppkmlmbjoaa.ve
open Go Go.Vs Go.Ve Go.Fn Go.Proofs.Try
set_option linter.unusedVariables false
def F10d : VFE := { cfg := { N := 42, T := T, R := R, con := fun _ f => lkF f [(32, C32r), (22, C22)], var := [0, 1, 2, 3, 4, 5, 6, 7], res := [4, 5], eqs := EQ, outd := true }, keys := [0, 1, 3, 4, 5, 6, 7, 23, 29], bkeys := [.loc 3, .loc 6] }
def S10d : Sig := { args := [.one (.n .data (.pair (.pair (.int .i64) (.pair (.int .i64) (.pair (.int .i64) (.pair (.pair (.int .i64) (.int .i64)) (.pair (.int .i64) (.pair (.sl (.pair (.int .i64) (.pair .str (.int .i64)))) (.pair .str (.pair (.int .i64) .bool)))))))) (.pair (.pair (.int .i64) (.pair (.int .i64) (.pair (.int .i64) (.pair (.pair (.int .i64) (.int .i64)) (.pair (.int .i64) (.pair (.sl (.pair (.int .i64) (.pair .str (.int .i64)))) (.pair .str (.pair (.int .i64) .bool)))))))) (.pair .str (.pair (.int .i64) .bool))))), .row (.pair (.pair (.int .i64) (.pair (.int .i64) (.pair (.int .i64) (.pair (.pair (.int .i64) (.int .i64)) (.pair (.int .i64) (.pair (.sl (.pair (.int .i64) (.pair .str (.int .i64)))) (.pair .str (.pair (.int .i64) .bool)))))))) (.pair (.pair (.int .i64) (.pair (.int .i64) (.pair (.int .i64) (.pair (.pair (.int .i64) (.int .i64)) (.pair (.int .i64) (.pair (.sl (.pair (.int .i64) (.pair .str (.int .i64)))) (.pair .str (.pair (.int .i64) .bool)))))))) (.pair .str (.pair (.int .i64) .bool))))], boxes := [], res := [.one (.n .data (.pair (.pair (.int .i64) (.pair (.int .i64) (.pair (.int .i64) (.pair (.pair (.int .i64) (.int .i64)) (.pair (.int .i64) (.pair (.sl (.pair (.int .i64) (.pair .str (.int .i64)))) (.pair .str (.pair (.int .i64) .bool)))))))) (.pair (.pair (.int .i64) (.pair (.int .i64) (.pair (.int .i64) (.pair (.pair (.int .i64) (.int .i64)) (.pair (.int .i64) (.pair (.sl (.pair (.int .i64) (.pair .str (.int .i64)))) (.pair .str (.pair (.int .i64) .bool)))))))) (.pair .str (.pair (.int .i64) .bool))))), .one (.i .i64)], rbox := [], frz := [] }
def L10d : Nat → Option LoopRec := fun _ => none
set_option maxRecDepth 100000 in
theorem run10d : ∀ x, gives F10d L10d f10 S10d x = (fun x => history_Record_d x.1 x.2) x := by
  intro x
  kernel_rfl
theorem fn10d : FnCalls prog 10 (S10d.F (fun x => history_Record_d x.1 x.2)) := fn_sig (F := F10d) (tbl := L10d) func10 (by kernel_rfl) mix (cok_list (l := [(32, C32r), (22, C22)]) (tabsT rfl rfl) rfl (List.forall_mem_cons.2 ⟨G32r, List.forall_mem_cons.2 ⟨G22, by simp⟩⟩)) (by kernel_rfl) (by kernel_rfl) (by decide) (fun _ => by kernel_rfl) run10d
def C10d : Con := S10d.con (by kernel_rfl) (fun x => history_Record_d x.1 x.2)
theorem G10d : Good1 prog (10, C10d) := good_of func10 (by kernel_rfl) (by kernel_rfl) fn10d
end Go.Proofs.Ytdgpppkmlmbjoaa.ve
/- slices.Backward at the steps of a history, and its callers' loop. -/
namespace Go.Proofs.Ytdgpppkmlmbjoaa.bk
open Go Go.Proofs Go.Proofs.Try Go.RowKit Go.Shelf
attribute [local go_sem] Oper.semAt_some
def upto {α : Type} (f : Nat → α) (k : Nat) : List α := (List.range k).map f
theorem upto_succ {α : Type} (f : Nat → α) (k : Nat) : upto f (k + 1) = upto f k ++ [f k] := by simp [upto, List.range_succ]
theorem upto_length {α : Type} (f : Nat → α) (k : Nat) : (upto f k).length = k := by simp [upto]
set_option maxHeartbeats 1000000 in
/-- slices.Backward(l): the slice is boxed; the function value captures the box. -/
theorem backward_in (F : Fence) (n : Nat) (h44 : F.fn 44) (hro : F.round = none) (a : Option Addr) (len cap : Nat) (w : World) :
    CallsIn F n prog 44 #[.slice a len cap] w fun e w' => e = .returned (.func (.func 46) #[] #[.pointer (some ⟨w.heap.size, 0, none⟩)]) ∧ w' = w.alloc (.cells #[.slice a len cap] 22) := by
  refine callsIn_of_wp func44 rfl h44 ?_ hro
  simp only [ntmps44, List.size_toArray, List.length_cons, List.length_nil, Nat.reduceAdd, Nat.reduceSub, Array.replicate_succ, Array.replicate_zero, List.push_toArray, List.append_toArray, List.nil_append, List.cons_append]
  gi_wp2
  go_ret
  exact ⟨rfl, rfl⟩
/-- a step's value, by its cells -/
def agg23 (g : Nat → Value) : Value := .agg ((List.range 23).map g).toArray
/-- one step that comes: its index, its cells, what the callers read of it -/
structure Stp where
  k : Nat
  g : Nat → Value
  id : Int
  u : Bool
  one : ∀ j, j < 23 → Go.Vs.isOne (g j) = true
  cid : g 10 = .int .i64 id
  cu : g 22 = .bool u
theorem run_load30 {W : World} {b o : Nat} {g : Nat → Value} (h : ∀ j, j < 23 → W.cell? ⟨b, o + j, none⟩ = some (g j)) :
    (loadVar 30 ⟨b, o, none⟩).run prog W = .ok (agg23 g) W := by
  obtain ⟨i, ht, h1, h2⟩ : ∃ i, Go.Vs.tiOf prog 30 = some i ∧ i.kind.agg = true ∧ i.size = 23 := ⟨_, ve.AllP.mem ve.T_ok (30, _) (ve.lk_mem (l := ve.T) (t := 30) rfl), rfl, rfl⟩
  obtain ⟨ws, el, fz, hw, hws⟩ := Go.Vs.cells_of_cell? (h 22 (by omega))
  have hlt := (Array.getElem?_eq_some_iff.1 hws).1
  simp only [loadVar, Sem.run_bind, Go.Vs.run_isAgg ht, Result.andThen_ok, h1, if_true, Go.Vs.run_sizeOf ht, h2]
  rw [Go.Vs.run_loadCells hw (by omega)]
  simp only [Result.andThen_ok, Sem.run_pure, agg23]
  congr 2
  apply Array.ext
  · simp; omega
  · intro j h3 h4
    have h5 : j < 23 := by simpa using h4
    have h6 := h j h5
    simp only [World.cell?, hw] at h6
    have h7 : ws[o + j]? = some (g j) := by simpa using h6
    rw [Array.getElem?_eq_getElem (by omega)] at h7
    simpa using Option.some.inj h7
theorem wpListIn_load_ok {F : Fence} {n : Nat} {P : Program} {w : World} {ops : Array Oper} {rest : List Oper} {o : Oper} {a : Act} {Q : Exit → Act → World → Prop} (hg : o.guard = none) (t : TypeId) (x : Operand) (hop : o.op = .load t x)
    {p : Addr} (hx : a.eval x = .pointer (some p)) {v : Value} (hr : (loadVar t p).run P w = .ok v w) (h : wpListIn F n P ops Q rest (a.put o.dst v) w) : wpListIn F n P ops Q (o :: rest) a w := by
  refine wpListIn_plain hg fun K hK => ?_
  unfold Oper.wpIn
  refine ⟨by simp [Oper.about, hop], ?_⟩
  rw [Oper.semAt_plain F _ _ (by rw [hop]; intro c hc'; cases hc')]
  simp [execOp, hop, Instr.loadAt, Instr.sureAddr, hx, hr, Result.andThen, Oper.uponIn]
  exact hK _ _ h
set_option maxRecDepth 100000 in
set_option maxHeartbeats 2000000 in
theorem back1_in (F : Fence) (n : Nat) (h46 : F.fn 46) (hro : F.round = none) (hn : 1 ≤ n) (l Bs n₀ b off len cap : Nat) (st : Nat → Stp) (hst : ∀ k, (st k).k = k) (hreach : len ≤ 4611686018427387904) (hb : b < n₀) (J Jx : List Stp → World → Prop)
    (hY : ∀ pre x W, J pre W → pre.length < len → YieldAt F (n - 1) prog l #[.int .i64 (x.k : Int), agg23 x.g] W fun e W' =>
      (e = .returned (.bool true) ∧ J (pre ++ [x]) W' ∧ Below n₀ W W') ∨ (e = .returned (.bool false) ∧ Jx (pre ++ [x]) W'))
    (W : World) (hBs : ∀ wr, Below n₀ W wr → wr.cell? ⟨Bs, 0, none⟩ = some (.slice (some ⟨b, off, none⟩) len cap)) (hc : ∀ k, k < len → ∀ j, j < 23 → W.cell? ⟨b, off + k * 23 + j, none⟩ = some ((st k).g j)) (h0 : J [] W) :
    CallsIn F n prog 46 #[.func (.yield l) #[] #[], .pointer (some ⟨Bs, 0, none⟩)] W fun e W' => (∃ v, e = .returned v) ∧
      ((∃ ys, ys = upto (fun j => st (len - 1 - j)) len ∧ J ys W') ∨ (∃ pre, (∃ k, k ≤ len ∧ pre = upto (fun j => st (len - 1 - j)) k) ∧ Jx pre W')) := by
  refine callsIn_of_wp func46 rfl h46 ?_ hro
  simp only [ntmps46, List.size_toArray, List.length_cons, List.length_nil, Nat.reduceAdd, Nat.reduceSub, Array.replicate_succ, Array.replicate_zero, List.push_toArray, List.append_toArray, List.nil_append, List.cons_append]
  have hBs0 := hBs W (Below.refl _ _)
  gi_wp2
  gi_loopw [3] (fun i wr => ∃ m : Nat, m ≤ len ∧ i = .int .i64 ((len : Int) - 1 - m) ∧ J (upto (fun j => st (len - 1 - j)) m) wr ∧ Below n₀ W wr)
    (fun i _ => (intOf i + 1).toNat)
  case atStart => exact ⟨0, Nat.zero_le _, by simp, h0, Below.refl _ _⟩
  case round =>
    obtain ⟨m, hm, rfl, hJs, hnx⟩ := hrel
    have hBs' := hBs _ hnx
    have hcx : ∀ k, k < len → ∀ j, j < 23 → wr.cell? ⟨b, off + k * 23 + j, none⟩ = some ((st k).g j) := fun k hk j hj => (hnx.cell (p := ⟨b, off + k * 23 + j, none⟩) hb).trans (hc k hk j hj)
    by_cases hlt : m < len
    · obtain ⟨k, hk⟩ : ∃ k, k + m + 1 = len := ⟨len - 1 - m, by omega⟩
      have hkl : k < len := by omega
      have ek : (len : Int) - 1 - m = (k : Int) := by omega
      have ek2 : len - 1 - m = k := by omega
      rw [ek]
      obtain ⟨fn, tmps, assign, body, hy, hR⟩ := hY _ (st k) wr hJs (by rw [upto_length]; exact hlt)
      rw [hst k] at hy
      gi_wp2_with (refine wpListIn_load_ok rfl 30 (.tmp 15) rfl rfl (run_load30 (b := b) (o := off + k * 23) (g := (st k).g) (hcx k hkl)) ?_; go_simp)
      refine hR.mono ?_
      rintro e W3 (⟨rfl, hJ3, hk3⟩ | ⟨rfl, hJx3⟩)
      · gi_wp2
        go_roundw
        case rel =>
          exact ⟨m + 1, by omega, by congr 1; omega, by rw [upto_succ, ek2]; exact hJ3, hnx.trans hk3⟩
        case measure => simp [intOf]
      · gi_wp2
        refine bodyPost_ret (results_none rfl _ _ _) rfl ?_
        exact ⟨⟨_, rfl⟩, .inr ⟨_, ⟨m + 1, by omega, by rw [upto_succ, ek2]⟩, hJx3⟩⟩
    · obtain rfl : m = len := by omega
      have ek : (m : Int) - 1 - m = -1 := by omega
      rw [ek]
      gi_wp2
      go_end0
      exact ⟨⟨_, rfl⟩, .inl ⟨_, rfl, hJs⟩⟩
set_option maxRecDepth 100000 in
set_option maxHeartbeats 1000000 in
theorem back1_nil_in (F : Fence) (n : Nat) (h46 : F.fn 46) (hro : F.round = none) (l Bs : Nat) (J : List Stp → World → Prop) (a : Option Addr) (cap : Nat) (W : World) (hBs : W.cell? ⟨Bs, 0, none⟩ = some (.slice a 0 cap)) (h0 : J [] W) :
    CallsIn F n prog 46 #[.func (.yield l) #[] #[], .pointer (some ⟨Bs, 0, none⟩)] W fun e W' => (∃ v, e = .returned v) ∧ J [] W' := by
  refine callsIn_of_wp func46 rfl h46 ?_ hro
  simp only [ntmps46, List.size_toArray, List.length_cons, List.length_nil, Nat.reduceAdd, Nat.reduceSub, Array.replicate_succ, Array.replicate_zero, List.push_toArray, List.append_toArray, List.nil_append, List.cons_append]
  gi_wp2
  gi_loopw [3] (fun i wr => i = .int .i64 (-1) ∧ J [] wr) (fun _ _ => 0)
  case atStart => exact ⟨rfl, h0⟩
  case round =>
    obtain ⟨rfl, hJs⟩ := hrel
    gi_wp2
    go_end0
    exact ⟨⟨_, rfl⟩, hJs⟩
/-- the slice value sv holds the steps st 0, .., st (len - 1), in a block below n₀; or it is nil -/
def Steps (n₀ : Nat) (W : World) (sv : Value) (len : Nat) (st : Nat → Stp) : Prop :=
  (∃ a cap, sv = .slice a 0 cap ∧ len = 0) ∨ ∃ b off cap, sv = .slice (some ⟨b, off, none⟩) len cap ∧ b < n₀ ∧ ∀ k, k < len → ∀ j, j < 23 → W.cell? ⟨b, off + k * 23 + j, none⟩ = some ((st k).g j)
theorem Steps.below {n₀ : Nat} {A B : World} (h : Below n₀ A B) {sv : Value} {len : Nat} {st : Nat → Stp} : Steps n₀ A sv len st → Steps n₀ B sv len st
  | .inl e => .inl e
  | .inr ⟨b, off, cap, e, hb, hc⟩ => .inr ⟨b, off, cap, e, hb, fun k hk j hj => (h.cell (p := ⟨b, off + k * 23 + j, none⟩) hb).trans (hc k hk j hj)⟩
theorem back_stops (F : Fence) (n : Nat) (h46 : F.fn 46) (hro : F.round = none) (hn : 1 ≤ n) (Bs n₀ : Nat) (sv : Value) (len : Nat) (st : Nat → Stp) (hst : ∀ k, (st k).k = k) (hreach : len ≤ 4611686018427387904) (w : World) (hBs : Bs < n₀) (hn₀ : n₀ ≤ w.heap.size)
    (hc : w.cell? ⟨Bs, 0, none⟩ = some sv) (hI : Steps n₀ w sv len st) :
    SeqStopsK F n prog 46 #[.pointer (some ⟨Bs, 0, none⟩)] (fun x : Stp => #[Value.int .i64 (x.k : Int), agg23 x.g]) (Below n₀) (fun ys => ys = upto (fun j => st (len - 1 - j)) len)
      (fun pre => ∃ k, k ≤ len ∧ pre = upto (fun j => st (len - 1 - j)) k) len w := fun l J Jx W hW _ _ hY h0 => by
  have hc' := ((hW.mono hn₀).cell (p := ⟨Bs, 0, none⟩) hBs).trans hc
  rcases hI.below (hW.mono hn₀) with ⟨a, cap, rfl, rfl⟩ | ⟨b, off, cap, rfl, hb, hcs⟩
  · exact (back1_nil_in F n h46 hro l Bs J a cap W hc' h0).mono fun e W' ⟨he, hj⟩ => ⟨he, .inl ⟨_, rfl, hj⟩⟩
  · exact back1_in F n h46 hro hn l Bs n₀ b off len cap st hst hreach hb J Jx hY W (fun wr hwr => (hwr.cell (p := ⟨Bs, 0, none⟩) hBs).trans hc') hcs h0
theorem wpListIn_store_ex {F : Fence} {n : Nat} {P : Program} {w : World} {ops : Array Oper} {rest : List Oper} {o : Oper} {a : Act} {Q : Exit → Act → World → Prop} (hg : o.guard = none) (t : TypeId) (x y : Operand) (hop : o.op = .store t x y)
    {p : Addr} (hx : a.eval x = .pointer (some p)) {v : Value} (hy : a.eval y = v) {R : World → Prop} (hr : ∃ w', (storeVar t p v).run P w = .ok () w' ∧ R w') (h : ∀ w', R w' → wpListIn F n P ops Q rest (a.put o.dst undef) w') : wpListIn F n P ops Q (o :: rest) a w := by
  obtain ⟨w', hr, hR⟩ := hr
  refine wpListIn_plain hg fun K hK => ?_
  unfold Oper.wpIn
  refine ⟨by simp [Oper.about, hop], ?_⟩
  rw [Oper.semAt_plain F _ _ (by rw [hop]; intro c hc'; cases hc')]
  simp [execOp, hop, Instr.storeAt, Instr.sureAddr, hx, hy, hr, Result.andThen, Oper.uponIn]
  exact hK _ _ (h w' hR)
theorem store30 {W : World} {z : Array Value} (hz : z.size = 23) (x : Stp) :
    ∃ w', (storeVar 30 ⟨W.heap.size, 0, none⟩ (agg23 x.g)).run prog (W.alloc (.cells z 30)) = .ok () w' ∧ (Below W.heap.size W w' ∧ ∀ j, j < 23 → w'.cell? ⟨W.heap.size, j, none⟩ = some (x.g j)) := by
  obtain ⟨i, ht, h2⟩ : ∃ i, Go.Vs.tiOf prog 30 = some i ∧ i.size = 23 := ⟨_, ve.AllP.mem ve.T_ok (30, _) (ve.lk_mem (l := ve.T) (t := 30) rfl), rfl⟩
  have hcs : (agg23 x.g).cells.toList = (List.range 23).map x.g := by simp [agg23, Value.cells]
  obtain ⟨w', ws', h3, h4, h5⟩ := Go.Vs.run_storeCells (P := prog) (b := W.heap.size) (o := 0) (el := 30) (lo := 0) (hi := 0) (agg23 x.g).cells.toList 0 (W.alloc (.cells z 30)) z (World.alloc_heap_new W _) (by omega)
    (by rw [hcs]; simp [hz]) (by rw [hcs]; intro v hv; obtain ⟨j, hj, rfl⟩ := List.mem_map.1 hv; exact x.one j (by simpa using hj))
  refine ⟨w', Go.Vs.run_storeVar ht (by rw [h2]; simp [agg23, Value.cells]) h3, ⟨h4.os, h4.tape, h4.output, by rw [h4.size]; simp, fun k hk => ?_⟩, fun j hj => ?_⟩
  · rw [h4.other k (by omega)]
    exact Below.heap_alloc _ _ _ hk
  · simp only [World.cell?, h4.here]
    rw [← Array.getElem?_toList, h5, hcs]
    simp only [Go.Vs.splice, Nat.add_zero, List.take_zero, List.nil_append]
    rw [List.getElem?_append_left (by simpa using hj)]
    simp [hj]
def hit (seg : Int) (x : Stp) : Prop := x.id = seg ∧ x.u = false
set_option maxRecDepth 100000 in
set_option maxHeartbeats 2000000 in
/-- history.lastDone: the last step of this segment that is not undone; or -1 -/
theorem lastDone_in (F : Fence) (n : Nat) (h38 : F.fn 38) (h44 : F.fn 44) (h46 : F.fn 46) (hro : F.round = none) (hn : 3 ≤ n) (a : Option Addr) (sl cap : Nat) (len : Nat) (st : Nat → Stp) (hst : ∀ k, (st k).k = k) (hreach : len ≤ 4611686018427387904) (seg : Int) (w : World) (hI : Steps w.heap.size w (.slice a sl cap) len st) :
    CallsIn F n prog 38 #[.slice a sl cap, .int .i64 seg] w fun e W' =>
      ((e = .returned (.int .i64 (-1)) ∧ ∀ j, j < len → ¬ hit seg (st j)) ∨ (∃ k : Nat, k < len ∧ e = .returned (.int .i64 k) ∧ hit seg (st k) ∧ ∀ j, k < j → j < len → ¬ hit seg (st j))) ∧ Below w.heap.size w W' := by
  have h1 : 1 ≤ n := by omega
  refine callsIn_of_wp_marks func38 rfl h38 ?_ hro
  simp only [ntmps38, List.size_toArray, List.length_cons, List.length_nil, Nat.reduceAdd, Nat.reduceSub, Array.replicate_succ, Array.replicate_zero, List.push_toArray, List.append_toArray, List.nil_append, List.cons_append]
  gi_wp2_with (gi_at_call 44; refine (backward_in F (n - 1) h44 hro _ _ _ _).mono ?_; rintro e w' ⟨rfl, rfl⟩)
  have b0 := Boxed.new w 3 (.int .i64 seg)
  have b1 := Boxed.new (w.alloc (.cells #[.int .i64 seg] 3)) 3 (.int .i64 0)
  have b2 := Boxed.new ((w.alloc (.cells #[.int .i64 seg] 3)).alloc (.cells #[.int .i64 0] 3)) 22 (.slice a sl cap)
  simp only [World.size_alloc] at b1 b2
  have b0' := (b0.alloc (.cells #[.int .i64 0] 3)).alloc (.cells #[.slice a sl cap] 22)
  have b1' := b1.alloc (.cells #[.slice a sl cap] 22)
  have hB0 : Below w.heap.size w (((w.alloc (.cells #[.int .i64 seg] 3)).alloc (.cells #[.int .i64 0] 3)).alloc (.cells #[.slice a sl cap] 22)) := (((Below.refl _ w).alloc (Nat.le_refl _) _).alloc (by simp) _).alloc (by simp; omega) _
  obtain ⟨W0, hW0⟩ : ∃ W0, (((w.alloc (.cells #[.int .i64 seg] 3)).alloc (.cells #[.int .i64 0] 3)).alloc (.cells #[.slice a sl cap] 22)) = W0 := ⟨_, rfl⟩
  have hsz : W0.heap.size = w.heap.size + 3 := by rw [← hW0]; simp
  rw [hW0] at b0' b1' b2 hB0 ⊢
  have hI0 : Steps W0.heap.size W0 (.slice a sl cap) len st := by
    rcases hI.below hB0 with h | ⟨b, off, cp, e, hb, hc⟩
    · exact .inl h
    · exact .inr ⟨b, off, cp, e, by omega, hc⟩
  refine wpIn_rangeFunc_ownH hro h1 (gf := 46) (lb := #[.pointer (some ⟨w.heap.size + 1 + 1, 0, none⟩)]) rfl h46 (enters_of func46 (by kernel_rfl) rfl)
    (back_stops F (n - 1) h46 hro (by omega) (w.heap.size + 1 + 1) W0.heap.size (.slice a sl cap) len st hst hreach W0 (by omega) (Nat.le_refl _) b2.cell hI0) belowK_t (belowK_b (Nat.le_refl _)) (Below.refl _ _) (fun _ => rfl)
    (fun pre W => ((∀ p ∈ pre, ¬ hit seg p) ∧ Boxed W w.heap.size 3 (.int .i64 seg) ∧ Boxed W (w.heap.size + 1) 3 (.int .i64 0)) ∧ Below w.heap.size w W ∧ W0.heap.size ≤ W.heap.size)
    (fun c pre W => (c = .ret ∧ ∃ ini last, pre = ini ++ [last] ∧ (∀ p ∈ ini, ¬ hit seg p) ∧ hit seg last ∧ Boxed W (w.heap.size + 1) 3 (.int .i64 (last.k : Int))) ∧ Below w.heap.size w W)
    (OwnFrom.and (OwnFrom.and (ownFrom_pure _ _) (OwnFrom.and (Own.from (boxed_own _ _ _) _) (Own.from (boxed_own _ _ _) _))) (OwnFrom.and (ownFrom_below (Nat.le_refl _) (by omega)) (fun _ X Y row hs hg _ => Nat.le_trans hs hg.size)))
    (fun c => OwnFrom.and (fun pre X Y row hs hg hr => by
      obtain ⟨hc, ini, last, e1, e2, e3, e4⟩ := hs
      exact ⟨hc, ini, last, e1, e2, e3, boxed_own (w.heap.size + 1) 3 (fun (_ : Unit) => Value.int .i64 (last.k : Int)) () X Y row e4 hg (fun r e => (hr r e).2)⟩) (ownFrom_below (Nat.le_refl _) (by omega)))
    ⟨⟨by simp, b0', b1'⟩, hB0, Nat.le_refl _⟩
    (fun x a' W => ∃ Bx, W.cell? ⟨Bx, 10, none⟩ = some (.int .i64 x.id) ∧ W.cell? ⟨Bx, 22, none⟩ = some (.bool x.u) ∧ a' = { tmps := #[.slice a sl cap, .int .i64 seg, undef, .pointer (some ⟨w.heap.size, 0, none⟩), .pointer (some ⟨w.heap.size + 1, 0, none⟩), .int .i64 (x.k : Int), .pointer (some ⟨Bx, 0, none⟩), .slice a sl cap, .func (.func 46) #[] #[.pointer (some ⟨w.heap.size + 1 + 1, 0, none⟩)], .int .i64 (x.k : Int), agg23 x.g, undef, undef, undef, undef, undef, undef, undef, undef, undef, undef, undef], defers := [] })
    (fun x a' _ X Y row hs hg hr => by obtain ⟨Bx, h1, h2, h3⟩ := hs; exact ⟨Bx, cell_kept h1 hg (fun r e => (hr r e).2), cell_kept h2 hg (fun r e => (hr r e).2), h3⟩)
    ?assign ?body ?done ?stop
  case assign =>
    rintro l pre x W K ⟨⟨hp, bs, br⟩, hB, hle⟩ hK
    gi_wp2_with (refine wpListIn_store_ex rfl 30 (.tmp 6) (.tmp 10) rfl rfl rfl (store30 rfl x) ?_; rintro W' ⟨hF, hcs⟩; go_simp)
    exact hK _ _ ⟨hF.size, fun k o _ hk _ => (hF.block k (Array.getElem?_eq_some_iff.1 hk).1).trans hk⟩ (hF.mono hle)
      ⟨⟨hp, (hF.block _ bs.lt).trans bs, (hF.block _ br.lt).trans br⟩, hB.trans (hF.mono hB.size), Nat.le_trans hle hF.size⟩
      ⟨W.heap.size, (hcs 10 (by omega)).trans (by rw [x.cid]), (hcs 22 (by omega)).trans (by rw [x.cu]), rfl⟩
  case body =>
    rintro l pre x a' W hl ⟨r, hr⟩ ⟨⟨hp, bs, br⟩, hB, hle⟩ ⟨Bx, hid, hu, rfl⟩ hlt
    have cS := bs.cell
    have cR := br.cell
    have fR := br.frozen
    have goOn : ¬ hit seg x → (∀ p ∈ pre ++ [x], ¬ hit seg p) := fun hx p hp' => (List.mem_append.1 hp').elim (hp p) (fun e => by simp at e; subst e; exact hx)
    gi_wp2
    · have hx1 : x.id = seg := by assumption
      have hx2 : (!x.u) = true := by assumption
      exact ⟨(KeepsOthers.setCell _ _ _).from _, ⟨rfl, pre, x, rfl, hp, ⟨hx1, by simpa using hx2⟩, br.set _⟩, hB.setCell (p := ⟨w.heap.size + 1, 0, none⟩) (by simp) _⟩
    · have hx2 : (!x.u) = false := by assumption
      exact ⟨KeepsFrom.refl _ _, Below.refl _ _, ⟨goOn (fun h => by rw [h.2] at hx2; cases hx2), bs, br⟩, hB, hle⟩
    · have hx1 : ¬ x.id = seg := by assumption
      exact ⟨KeepsFrom.refl _ _, Below.refl _ _, ⟨goOn (fun h => hx1 h.1), bs, br⟩, hB, hle⟩
  case done =>
    rintro D ys W hD rfl ⟨⟨hne, bs, br⟩, hB, hle⟩ hK
    have cR := br.cell
    have fR := br.frozen
    gi_wp2
    have hK' := (KeepsOthers.setCell W ⟨w.heap.size + 1, 0, none⟩ (.int .i64 (-1))).same D _ hK rfl
    refine ⟨by simp, .inl ⟨_, _, rfl, run_takeDeferred hK', ?_⟩⟩
    have hc5 := cell_kept (World.cell?_setCell_same' W ⟨w.heap.size + 1, 0, none⟩ (.int .i64 (-1)) (by rw [cR]; rfl)) (grownBy_putObj' _ D (.deferred none)) (fun r e => by cases e; exact ⟨_, hK', rfl⟩)
    refine ⟨.int .i64 (-1), ?_, .inl ⟨rfl, fun j hj => ?_⟩, (hB.setCell (p := ⟨w.heap.size + 1, 0, none⟩) (by simp) _).trans (belowK_b (w := w) (Nat.le_refl _) _ D _ _ (by omega) hK' rfl rfl)⟩
    · simp [results, f38, go_sem, hc5]
    · refine hne (st j) ?_
      simp only [upto, List.mem_map, List.mem_range]
      exact ⟨len - 1 - j, by omega, by rw [show len - 1 - (len - 1 - j) = j by omega]⟩
  case stop =>
    rintro D c pre W hD ⟨k, hk, rfl⟩ ⟨⟨rfl, ini, last, e1, e2, e3, br⟩, hB⟩ hK
    have cR := br.cell
    gi_wp2
    refine ⟨by simp, .inl ⟨_, _, rfl, run_takeDeferred hK, ?_⟩⟩
    have hc5 := cell_kept cR (grownBy_putObj' _ D (.deferred none)) (fun r e => by cases e; exact ⟨_, hK, rfl⟩)
    obtain ⟨k', rfl⟩ : ∃ k', k = k' + 1 := by
      cases k with
      | zero => simp [upto] at e1
      | succ k' => exact ⟨k', rfl⟩
    rw [upto_succ] at e1
    obtain ⟨rfl, e5⟩ := List.append_inj' e1 rfl
    obtain rfl : st (len - 1 - k') = last := by simpa using e5
    refine ⟨.int .i64 ((st (len - 1 - k')).k : Int), ?_, .inr ⟨len - 1 - k', by omega, by rw [hst], e3, fun j hj hj2 => ?_⟩, hB.trans (belowK_b (w := w) (Nat.le_refl _) W D _ _ (by omega) hK rfl rfl)⟩
    · simp [results, f38, go_sem, hc5]
    · refine e2 (st j) ?_
      simp only [upto, List.mem_map, List.mem_range]
      exact ⟨len - 1 - j, by omega, by rw [show len - 1 - (len - 1 - j) = j by omega]⟩
end Go.Proofs.Ytdgpppkmlmbjoaa.bk
/- bitext/history.lastDone: a range over slices.Backward, by hand. -/
namespace Go.Proofs.Ytdgpppkmlmbjoaa.ve
open Go Go.Vs Go.Ve Go.Fn Go.Proofs.Try
set_option linter.unusedVariables false
abbrev tyStep : Ty := (.pair (.pair (.int .i64) (.pair (.int .i64) (.pair (.int .i64) (.pair (.pair (.int .i64) (.int .i64)) (.pair (.int .i64) (.pair (.sl (.pair (.int .i64) (.pair .str (.int .i64)))) (.pair .str (.pair (.int .i64) .bool)))))))) (.pair (.pair (.int .i64) (.pair (.int .i64) (.pair (.int .i64) (.pair (.pair (.int .i64) (.int .i64)) (.pair (.int .i64) (.pair (.sl (.pair (.int .i64) (.pair .str (.int .i64)))) (.pair .str (.pair (.int .i64) .bool)))))))) (.pair .str (.pair (.int .i64) .bool))))
def S38 : Sig := { args := [.one (.n .data (.pair (.pair (.int .i64) (.pair (.int .i64) (.pair (.int .i64) (.pair (.pair (.int .i64) (.int .i64)) (.pair (.int .i64) (.pair (.sl (.pair (.int .i64) (.pair .str (.int .i64)))) (.pair .str (.pair (.int .i64) .bool)))))))) (.pair (.pair (.int .i64) (.pair (.int .i64) (.pair (.int .i64) (.pair (.pair (.int .i64) (.int .i64)) (.pair (.int .i64) (.pair (.sl (.pair (.int .i64) (.pair .str (.int .i64)))) (.pair .str (.pair (.int .i64) .bool)))))))) (.pair .str (.pair (.int .i64) .bool))))), .one (.i .i64)], boxes := [], res := [.one (.i .i64)], rbox := [], frz := [] }
theorem encStep10 (x : HStep) : (encR tyStep x)[10]? = some (.int .i64 x.2.1.1) := by
  obtain ⟨⟨a1, a2, a3, ⟨a4, a5⟩, a6, o, a7, a8, a9⟩, ⟨b1, b2, b3, ⟨b4, b5⟩, b6, o', b7, b8, b9⟩, c1, c2, c3⟩ := x
  cases o <;> cases o' <;> rfl
theorem encStep22 (x : HStep) : (encR tyStep x)[22]? = some (.bool x.2.2.2.2) := by
  obtain ⟨⟨a1, a2, a3, ⟨a4, a5⟩, a6, o, a7, a8, a9⟩, ⟨b1, b2, b3, ⟨b4, b5⟩, b6, o', b7, b8, b9⟩, c1, c2, c3⟩ := x
  cases o <;> cases o' <;> rfl
theorem encStepLen (x : HStep) : (encR tyStep x).length = 23 := by
  obtain ⟨⟨a1, a2, a3, ⟨a4, a5⟩, a6, o, a7, a8, a9⟩, ⟨b1, b2, b3, ⟨b4, b5⟩, b6, o', b7, b8, b9⟩, c1, c2, c3⟩ := x
  cases o <;> cases o' <;> rfl
def dflt (k : Nat) : bk.Stp := { k, g := fun j => if j = 10 then .int .i64 0 else if j = 22 then .bool false else .bool false, id := 0, u := false, one := fun j _ => by by_cases h : j = 10 <;> by_cases h2 : j = 22 <;> simp [h, h2, isOne], cid := rfl, cu := rfl }
/-- a step that lies in memory -/
theorem stp_of {w : World} {Z : Nat → Prop} {b o : Nat} (k : Nat) (x : HStep) (h : RowRel w Z (encR tyStep x) b o) :
    ∃ s : bk.Stp, s.k = k ∧ (∀ j, j < 23 → w.cell? ⟨b, o + j, none⟩ = some (s.g j)) ∧ s.id = x.2.1.1 ∧ s.u = x.2.2.2.2 := by
  have hg : ∀ j, j < 23 → ∃ v, w.cell? ⟨b, o + j, none⟩ = some v ∧ isOne v = true := fun j hj => by
    obtain ⟨v, h1, h2⟩ := h.get (j := j) (List.getElem?_eq_getElem (by rw [encStepLen]; exact hj))
    exact ⟨v, h1, isOne_of_drel h2⟩
  obtain ⟨v10, a1, a2⟩ := h.get (encStep10 x)
  obtain ⟨v22, c1, c2⟩ := h.get (encStep22 x)
  refine ⟨{ k, g := fun j => (w.cell? ⟨b, o + j, none⟩).getD (.bool false), id := x.2.1.1, u := x.2.2.2.2, one := fun j hj => ?_, cid := ?_, cu := ?_ }, rfl, fun j hj => ?_, rfl, rfl⟩
  · obtain ⟨v, h1, h2⟩ := hg j hj
    rw [h1]; exact h2
  · rw [a1]; exact a2
  · rw [c1]; exact c2
  · obtain ⟨v, h1, h2⟩ := hg j hj
    simp only [h1, Option.getD_some]
theorem lastHit_none {l : List HStep} {seg : Int} : ∀ {n : Nat}, (∀ j, j < n → hHit seg (l.getD j ((0, 0, 0, (0, 0), 0, none, [], 0, false), (0, 0, 0, (0, 0), 0, none, [], 0, false), [], 0, false)) = false) → lastHit l seg n = -1
  | 0, _ => rfl
  | n + 1, h => by simp only [lastHit, h n (by omega), Bool.false_eq_true, if_false]; exact lastHit_none fun j hj => h j (by omega)
theorem lastHit_some {l : List HStep} {seg : Int} {k : Nat} : ∀ {n : Nat}, k < n → hHit seg (l.getD k ((0, 0, 0, (0, 0), 0, none, [], 0, false), (0, 0, 0, (0, 0), 0, none, [], 0, false), [], 0, false)) = true → (∀ j, k < j → j < n → hHit seg (l.getD j ((0, 0, 0, (0, 0), 0, none, [], 0, false), (0, 0, 0, (0, 0), 0, none, [], 0, false), [], 0, false)) = false) → lastHit l seg n = k
  | 0, hk, _, _ => by omega
  | n + 1, hk, h1, h2 => by
    simp only [lastHit]
    by_cases e : n = k
    · subst e; rw [if_pos h1]
    · rw [if_neg (by rw [h2 n (by omega) (by omega)]; simp)]
      exact lastHit_some (by omega) h1 fun j a b => h2 j a (by omega)
def dOf (l : Option (List HStep)) : D := match l with | none => .nil | some xs => .sl 23 (xs.map (encR tyStep))
theorem core (l : Option (List HStep)) (seg : Int) (hlen : (l.getD []).length ≤ 4611686018427387904) {w : World} {vals : Array Value} {Z : Nat → Prop} (hsz : vals.size = 2) (h0 : DRel w Z (dOf l) (vals.getD 0 undef)) (h1 : vals.getD 1 undef = .int .i64 seg) (hzin : ∀ b, Z b → b < w.heap.size) :
    Calls prog 38 vals w fun e w' => e = .returned (.int .i64 (lastHit (l.getD []) seg (l.getD []).length)) ∧ Go.RowKit.Below w.heap.size w w' := by
  obtain ⟨v0, hv0⟩ : ∃ v0, vals.getD 0 undef = v0 := ⟨_, rfl⟩
  have hv : vals = #[v0, .int .i64 seg] := by
    apply Array.ext
    · exact hsz
    · intro i h3 h4
      have hs2 : vals.size = 2 := hsz
      match i, h4 with
      | 0, _ => simpa [Array.getD_eq_getD_getElem?, Array.getElem?_eq_getElem h3] using hv0
      | 1, _ => simpa [Array.getD_eq_getD_getElem?, Array.getElem?_eq_getElem h3] using h1
  -- the list in memory
  obtain ⟨a, sl, cap, st, rfl, hst, hids, hS⟩ : ∃ (a : Option Addr) (sl cap : Nat) (st : Nat → bk.Stp), v0 = .slice a sl cap ∧ (∀ k, (st k).k = k) ∧ (∀ k, k < (l.getD []).length → (st k).id = ((l.getD []).getD k ((0, 0, 0, (0, 0), 0, none, [], 0, false), (0, 0, 0, (0, 0), 0, none, [], 0, false), [], 0, false)).2.1.1 ∧ (st k).u = ((l.getD []).getD k ((0, 0, 0, (0, 0), 0, none, [], 0, false), (0, 0, 0, (0, 0), 0, none, [], 0, false), [], 0, false)).2.2.2.2) ∧ bk.Steps w.heap.size w (.slice a sl cap) (l.getD []).length st := by
    have hd := h0
    rw [hv0] at hd
    cases l with
    | none => exact ⟨none, 0, 0, dflt, hd, fun _ => rfl, fun k hk => by simp at hk, .inl ⟨none, 0, rfl, rfl⟩⟩
    | some xs =>
      obtain ⟨ad, cap, e1, e2, e3, e4⟩ := hd
      simp only [List.length_map] at e1 e3
      rcases e2 with e2 | ⟨e2, e5⟩
      · have hx : xs.length = 0 := by omega
        refine ⟨some ad, xs.length, cap, dflt, e1, fun _ => rfl, fun k hk => by simp at hk; omega, .inl ⟨some ad, cap, by rw [hx], by simpa using hx⟩⟩
      · have hex : ∀ k, ∃ s : bk.Stp, s.k = k ∧ (k < xs.length → (∀ j, j < 23 → w.cell? ⟨ad.block, ad.off + k * 23 + j, none⟩ = some (s.g j)) ∧ s.id = (xs.getD k ((0, 0, 0, (0, 0), 0, none, [], 0, false), (0, 0, 0, (0, 0), 0, none, [], 0, false), [], 0, false)).2.1.1 ∧ s.u = (xs.getD k ((0, 0, 0, (0, 0), 0, none, [], 0, false), (0, 0, 0, (0, 0), 0, none, [], 0, false), [], 0, false)).2.2.2.2) := by
          intro k
          by_cases hk : k < xs.length
          · obtain ⟨_, hr⟩ := e4.get (i := k) (x := encR tyStep (xs.getD k ((0, 0, 0, (0, 0), 0, none, [], 0, false), (0, 0, 0, (0, 0), 0, none, [], 0, false), [], 0, false))) (by rw [List.getElem?_map, List.getElem?_eq_getElem hk, List.getD_eq_getElem?_getD, List.getElem?_eq_getElem hk]; rfl)
            obtain ⟨s, p1, p2, p3, p4⟩ := stp_of k _ hr
            exact ⟨s, p1, fun _ => ⟨p2, p3, p4⟩⟩
          · exact ⟨dflt k, rfl, fun h => absurd h hk⟩
        refine ⟨some ad, xs.length, cap, fun k => Classical.choose (hex k), e1, fun k => (Classical.choose_spec (hex k)).1, fun k hk => ((Classical.choose_spec (hex k)).2 hk).2, .inr ⟨ad.block, ad.off, cap, ?_, hzin _ e5, fun k hk => ((Classical.choose_spec (hex k)).2 hk).1⟩⟩
        obtain ⟨ab, ao, asp⟩ := ad
        simp only at e2
        subst e2
        rfl
  have hhit : ∀ k, k < (l.getD []).length → (bk.hit seg (st k) ↔ hHit seg ((l.getD []).getD k ((0, 0, 0, (0, 0), 0, none, [], 0, false), (0, 0, 0, (0, 0), 0, none, [], 0, false), [], 0, false)) = true) := fun k hk => by
    obtain ⟨q1, q2⟩ := hids k hk
    simp only [bk.hit, hHit, q1, q2, Bool.and_eq_true, beq_iff_eq, Bool.not_eq_true', iff_self]
  subst hv
  refine (callsIn_wide (n := 3)).1 ((bk.lastDone_in Fence.wide 3 trivial trivial trivial rfl (by omega) a sl cap _ st hst hlen seg w hS).mono ?_)
  rintro e w' ⟨hres, hB⟩
  have hfin : e = .returned (.int .i64 (lastHit (l.getD []) seg (l.getD []).length)) := by
    rcases hres with ⟨rfl, hn⟩ | ⟨k, hk, rfl, hh, hn⟩
    · rw [lastHit_none fun j hj => by
        have := hn j hj
        rw [hhit j hj] at this
        simpa using this]
    · rw [lastHit_some hk ((hhit k hk).1 hh) fun j a b => by
        have := hn j a b
        rw [hhit j b] at this
        simpa using this]
  exact ⟨hfin, hB⟩
theorem fn38 : FnCalls prog 38 (S38.F fun x => history_lastDone x.1 x.2) := by
  intro args boxes r h w vals β ω Z hsz hok hpl hent
  unfold Sig.F at h
  split at h
  · rename_i z hz
    split at h
    · rename_i y hy
      obtain ⟨l, seg⟩ := z
      obtain ⟨h1, h2⟩ := Sig.dec_some S38 (by kernel_rfl) hz
      subst h1 h2
      cases h
      simp only [history_lastDone] at hy
      split at hy
      · rename_i hlen
        cases hy
        have h0 := (hent.args 0).2
        have h1 : vals.getD 1 undef = .int .i64 seg := (hent.args 1).2
        have h0' : DRel w Z (dOf l) (vals.getD 0 undef) := by
          cases l with
          | none => exact h0
          | some xs => exact h0
        refine (core l seg hlen hsz h0' h1 hent.zin).mono ?_
        rintro e w' ⟨hfin, hB⟩
        refine ⟨_, _, _, Z, hfin, exit_scalar hent hok hB.os hB.tape hB.output hB.size (fun b hb _ => hB.block b hb) (K₀ := ctxOf prog 0 w #[] β ω Z) (β₀ := β) (Z₀ := Z) (s₀ := fun _ => {}) (a₀ := { tmps := #[], defers := [] }) (w₀ := w) ?_ ?_ rfl rfl⟩
        · exact ⟨rfl, rfl⟩
        · rfl
      · cases hy
    · cases h
  · cases h
def C38 : Con := S38.con (by kernel_rfl) (fun x => history_lastDone x.1 x.2)
theorem G38 : Good1 prog (38, C38) := good_of func38 (by kernel_rfl) (by kernel_rfl) fn38
end Go.Proofs.Ytdgpppkmlmbjoaa.ve
/- bitext/history.every$1 -/
namespace Go.Proofs.Ytdgpppkmlmbjoaa.ve
open Go Go.Vs Go.Ve Go.Fn Go.Proofs.Try
set_option linter.unusedVariables false
def F45 : VFE := { cfg := { N := 3, T := T, R := R, con := fun _ f => lkF f [], var := [0, 2], res := [2], eqs := EQ }, keys := [0, 2], bkeys := [.loc 1] }
def S45 : Sig := { args := [.row (.pair (.pair (.int .i64) (.pair (.int .i64) (.pair (.int .i64) (.pair (.pair (.int .i64) (.int .i64)) (.pair (.int .i64) (.pair (.sl (.pair (.int .i64) (.pair .str (.int .i64)))) (.pair .str (.pair (.int .i64) .bool)))))))) (.pair (.pair (.int .i64) (.pair (.int .i64) (.pair (.int .i64) (.pair (.pair (.int .i64) (.int .i64)) (.pair (.int .i64) (.pair (.sl (.pair (.int .i64) (.pair .str (.int .i64)))) (.pair .str (.pair (.int .i64) .bool)))))))) (.pair .str (.pair (.int .i64) .bool))))], boxes := [], res := [.one .b], rbox := [], frz := [] }
def L45 : Nat → Option LoopRec := fun _ => none
set_option maxRecDepth 100000 in
theorem run45 : ∀ x, gives F45 L45 f45 S45 x = (fun x => history_every_1 x) x := by
  intro x
  kernel_rfl
theorem fn45 : FnCalls prog 45 (S45.F (fun x => history_every_1 x)) := fn_sig (F := F45) (tbl := L45) func45 (by kernel_rfl) mix (cok_list (l := []) (tabsT rfl rfl) rfl (by simp)) (by kernel_rfl) (by kernel_rfl) (by decide) (fun _ => by kernel_rfl) run45
def C45 : Con := S45.con (by kernel_rfl) (fun x => history_every_1 x)
theorem G45 : Good1 prog (45, C45) := good_of func45 (by kernel_rfl) (by kernel_rfl) fn45
end Go.Proofs.Ytdgpppkmlmbjoaa.ve
/- bitext/history.only -/
namespace Go.Proofs.Ytdgpppkmlmbjoaa.ve
open Go Go.Vs Go.Ve Go.Fn Go.Proofs.Try
set_option linter.unusedVariables false
def F32e : VFE := { cfg := { N := 24, T := T, R := R, con := fun _ f => lkF f [(42, C42), (45, C45)], var := [0, 1, 2, 3, 4, 5, 6, 7], res := [4], eqs := EQ }, keys := [0, 1, 4, 5, 7, 8, 9, 10, 11, 16], bkeys := [.loc 7] }
def S32e : Sig := { args := [.one (.n .data (.pair (.pair (.int .i64) (.pair (.int .i64) (.pair (.int .i64) (.pair (.pair (.int .i64) (.int .i64)) (.pair (.int .i64) (.pair (.sl (.pair (.int .i64) (.pair .str (.int .i64)))) (.pair .str (.pair (.int .i64) .bool)))))))) (.pair (.pair (.int .i64) (.pair (.int .i64) (.pair (.int .i64) (.pair (.pair (.int .i64) (.int .i64)) (.pair (.int .i64) (.pair (.sl (.pair (.int .i64) (.pair .str (.int .i64)))) (.pair .str (.pair (.int .i64) .bool)))))))) (.pair .str (.pair (.int .i64) .bool))))), .clo 45], boxes := [], res := [.one (.n .own (.pair (.pair (.int .i64) (.pair (.int .i64) (.pair (.int .i64) (.pair (.pair (.int .i64) (.int .i64)) (.pair (.int .i64) (.pair (.sl (.pair (.int .i64) (.pair .str (.int .i64)))) (.pair .str (.pair (.int .i64) .bool)))))))) (.pair (.pair (.int .i64) (.pair (.int .i64) (.pair (.int .i64) (.pair (.pair (.int .i64) (.int .i64)) (.pair (.int .i64) (.pair (.sl (.pair (.int .i64) (.pair .str (.int .i64)))) (.pair .str (.pair (.int .i64) .bool)))))))) (.pair .str (.pair (.int .i64) .bool)))))], rbox := [], frz := [] }
def L32e : Nat → Option LoopRec := fun n => match n with
  | 0 => some { head := { live := [1, 5, 8, 9, 10], lbox := [], vs := [.slot 5 (.n .own (.pair (.pair (.int .i64) (.pair (.int .i64) (.pair (.int .i64) (.pair (.pair (.int .i64) (.int .i64)) (.pair (.int .i64) (.pair (.sl (.pair (.int .i64) (.pair .str (.int .i64)))) (.pair .str (.pair (.int .i64) .bool)))))))) (.pair (.pair (.int .i64) (.pair (.int .i64) (.pair (.int .i64) (.pair (.pair (.int .i64) (.int .i64)) (.pair (.int .i64) (.pair (.sl (.pair (.int .i64) (.pair .str (.int .i64)))) (.pair .str (.pair (.int .i64) .bool)))))))) (.pair .str (.pair (.int .i64) .bool))))), .slot 10 (.i .i64)] }, exits := [(.exit 0, { live := [5], lbox := [], vs := [.slot 5 (.n .own (.pair (.pair (.int .i64) (.pair (.int .i64) (.pair (.int .i64) (.pair (.pair (.int .i64) (.int .i64)) (.pair (.int .i64) (.pair (.sl (.pair (.int .i64) (.pair .str (.int .i64)))) (.pair .str (.pair (.int .i64) .bool)))))))) (.pair (.pair (.int .i64) (.pair (.int .i64) (.pair (.int .i64) (.pair (.pair (.int .i64) (.int .i64)) (.pair (.int .i64) (.pair (.sl (.pair (.int .i64) (.pair .str (.int .i64)))) (.pair .str (.pair (.int .i64) .bool)))))))) (.pair .str (.pair (.int .i64) .bool)))))] })] }
  | _ => none
set_option maxRecDepth 100000 in
theorem run32e : ∀ x, gives F32e L32e f32 S32e x = (fun x => history_only_e x) x := by
  intro x
  kernel_rfl
theorem fn32e : FnCalls prog 32 (S32e.F (fun x => history_only_e x)) := fn_sig (F := F32e) (tbl := L32e) func32 (by kernel_rfl) mix (cok_list (l := [(42, C42), (45, C45)]) (tabsT rfl rfl) rfl (List.forall_mem_cons.2 ⟨G42, List.forall_mem_cons.2 ⟨G45, by simp⟩⟩)) (by kernel_rfl) (by kernel_rfl) (by decide) (fun _ => by kernel_rfl) run32e
def C32e : Con := S32e.con (by kernel_rfl) (fun x => history_only_e x)
theorem G32e : Good1 prog (32, C32e) := good_of func32 (by kernel_rfl) (by kernel_rfl) fn32e
end Go.Proofs.Ytdgpppkmlmbjoaa.ve
/- bitext/history.every -/
namespace Go.Proofs.Ytdgpppkmlmbjoaa.ve
open Go Go.Vs Go.Ve Go.Fn Go.Proofs.Try
set_option linter.unusedVariables false
def F39 : VFE := { cfg := { N := 5, T := T, R := R, con := fun _ f => lkF f [(32, C32e)], var := [0, 1, 2], res := [2], eqs := EQ }, keys := [0, 2], bkeys := [] }
def S39 : Sig := { args := [.one (.n .data (.pair (.pair (.int .i64) (.pair (.int .i64) (.pair (.int .i64) (.pair (.pair (.int .i64) (.int .i64)) (.pair (.int .i64) (.pair (.sl (.pair (.int .i64) (.pair .str (.int .i64)))) (.pair .str (.pair (.int .i64) .bool)))))))) (.pair (.pair (.int .i64) (.pair (.int .i64) (.pair (.int .i64) (.pair (.pair (.int .i64) (.int .i64)) (.pair (.int .i64) (.pair (.sl (.pair (.int .i64) (.pair .str (.int .i64)))) (.pair .str (.pair (.int .i64) .bool)))))))) (.pair .str (.pair (.int .i64) .bool)))))], boxes := [], res := [.one (.n .own (.pair (.pair (.int .i64) (.pair (.int .i64) (.pair (.int .i64) (.pair (.pair (.int .i64) (.int .i64)) (.pair (.int .i64) (.pair (.sl (.pair (.int .i64) (.pair .str (.int .i64)))) (.pair .str (.pair (.int .i64) .bool)))))))) (.pair (.pair (.int .i64) (.pair (.int .i64) (.pair (.int .i64) (.pair (.pair (.int .i64) (.int .i64)) (.pair (.int .i64) (.pair (.sl (.pair (.int .i64) (.pair .str (.int .i64)))) (.pair .str (.pair (.int .i64) .bool)))))))) (.pair .str (.pair (.int .i64) .bool)))))], rbox := [], frz := [] }
def L39 : Nat → Option LoopRec := fun _ => none
set_option maxRecDepth 100000 in
theorem run39 : ∀ x, gives F39 L39 f39 S39 x = (fun x => history_every x) x := by
  intro x
  kernel_rfl
theorem fn39 : FnCalls prog 39 (S39.F (fun x => history_every x)) := fn_sig (F := F39) (tbl := L39) func39 (by kernel_rfl) mix (cok_list (l := [(32, C32e)]) (tabsT rfl rfl) rfl (List.forall_mem_cons.2 ⟨G32e, by simp⟩)) (by kernel_rfl) (by kernel_rfl) (by decide) (fun _ => by kernel_rfl) run39
def C39 : Con := S39.con (by kernel_rfl) (fun x => history_every x)
theorem G39 : Good1 prog (39, C39) := good_of func39 (by kernel_rfl) (by kernel_rfl) fn39
end Go.Proofs.Ytdgpppkmlmbjoaa.ve
/- bitext/history.Undo -/
namespace Go.Proofs.Ytdgpppkmlmbjoaa.ve
open Go Go.Vs Go.Ve Go.Fn Go.Proofs.Try
set_option linter.unusedVariables false
def F26 : VFE := { cfg := { N := 42, T := T, R := R, con := fun _ f => lkF f [(38, C38), (39, C39), (37, C37)], var := [0, 1, 2, 3, 4, 6, 7, 8], res := [4, 6], eqs := EQ }, keys := [0, 1, 4, 5, 6, 7, 8, 13, 27], bkeys := [.loc 5] }
def S26 : Sig := { args := [.one (.n .data (.pair (.pair (.int .i64) (.pair (.int .i64) (.pair (.int .i64) (.pair (.pair (.int .i64) (.int .i64)) (.pair (.int .i64) (.pair (.sl (.pair (.int .i64) (.pair .str (.int .i64)))) (.pair .str (.pair (.int .i64) .bool)))))))) (.pair (.pair (.int .i64) (.pair (.int .i64) (.pair (.int .i64) (.pair (.pair (.int .i64) (.int .i64)) (.pair (.int .i64) (.pair (.sl (.pair (.int .i64) (.pair .str (.int .i64)))) (.pair .str (.pair (.int .i64) .bool)))))))) (.pair .str (.pair (.int .i64) .bool))))), .one (.i .i64)], boxes := [], res := [.one (.n .own (.pair (.pair (.int .i64) (.pair (.int .i64) (.pair (.int .i64) (.pair (.pair (.int .i64) (.int .i64)) (.pair (.int .i64) (.pair (.sl (.pair (.int .i64) (.pair .str (.int .i64)))) (.pair .str (.pair (.int .i64) .bool)))))))) (.pair (.pair (.int .i64) (.pair (.int .i64) (.pair (.int .i64) (.pair (.pair (.int .i64) (.int .i64)) (.pair (.int .i64) (.pair (.sl (.pair (.int .i64) (.pair .str (.int .i64)))) (.pair .str (.pair (.int .i64) .bool)))))))) (.pair .str (.pair (.int .i64) .bool))))), .row (.pair (.int .i64) (.pair (.int .i64) (.pair (.int .i64) (.pair (.pair (.int .i64) (.int .i64)) (.pair (.int .i64) (.pair (.sl (.pair (.int .i64) (.pair .str (.int .i64)))) (.pair .str (.pair (.int .i64) .bool)))))))), .one (.i .i64)], rbox := [], frz := [] }
def L26 : Nat → Option LoopRec := fun _ => none
set_option maxRecDepth 100000 in
theorem run26 : ∀ x, gives F26 L26 f26 S26 x = (fun x => history_Undo x.1 x.2) x := by
  intro x
  kernel_rfl
theorem fn26 : FnCalls prog 26 (S26.F (fun x => history_Undo x.1 x.2)) := fn_sig (F := F26) (tbl := L26) func26 (by kernel_rfl) mix (cok_list (l := [(38, C38), (39, C39), (37, C37)]) (tabsT rfl rfl) rfl (List.forall_mem_cons.2 ⟨G38, List.forall_mem_cons.2 ⟨G39, List.forall_mem_cons.2 ⟨G37, by simp⟩⟩⟩)) (by kernel_rfl) (by kernel_rfl) (by decide) (fun _ => by kernel_rfl) run26
def C26 : Con := S26.con (by kernel_rfl) (fun x => history_Undo x.1 x.2)
theorem G26 : Good1 prog (26, C26) := good_of func26 (by kernel_rfl) (by kernel_rfl) fn26
end Go.Proofs.Ytdgpppkmlmbjoaa.ve
/- bitext/bitextref3.Same -/
namespace Go.Proofs.Ytdgpppkmlmbjoaa.ve
open Go Go.Vs Go.Ve Go.Fn Go.Proofs.Try
set_option linter.unusedVariables false
def F25 : VFE := { cfg := { N := 26, T := T, R := R, con := fun _ f => lkF f [], var := [0, 1, 2, 3, 4, 5], res := [4], eqs := EQ }, keys := [0, 1, 4, 5, 10, 12, 13, 14, 24], bkeys := [] }
def S25 : Sig := { args := [.one (.n .data (.pair (.int .i64) (.pair .str (.int .i64)))), .one (.n .data (.pair (.int .i64) (.pair .str (.int .i64))))], boxes := [], res := [.one .b], rbox := [], frz := [] }
def L25 : Nat → Option LoopRec := fun n => match n with
  | 0 => some { head := { live := [0, 1, 12, 13], lbox := [], vs := [.slot 13 (.i .i64)] }, exits := [(.ret, { live := [4], lbox := [], vs := [.slot 4 .b] }), (.exit 0, { live := [], lbox := [], vs := [] })] }
  | _ => none
set_option maxRecDepth 100000 in
theorem run25 : ∀ x, gives F25 L25 f25 S25 x = (fun x => bitextref3_Same x.1 x.2) x := by
  intro x
  kernel_rfl
theorem fn25 : FnCalls prog 25 (S25.F (fun x => bitextref3_Same x.1 x.2)) := fn_sig (F := F25) (tbl := L25) func25 (by kernel_rfl) mix (cok_list (l := []) (tabsT rfl rfl) rfl (by simp)) (by kernel_rfl) (by kernel_rfl) (by decide) (fun _ => by kernel_rfl) run25
def C25 : Con := S25.con (by kernel_rfl) (fun x => bitextref3_Same x.1 x.2)
theorem G25 : Good1 prog (25, C25) := good_of func25 (by kernel_rfl) (by kernel_rfl) fn25
end Go.Proofs.Ytdgpppkmlmbjoaa.ve
/- bitext/bitextref26.SameSegment -/
namespace Go.Proofs.Ytdgpppkmlmbjoaa.ve
open Go Go.Vs Go.Ve Go.Fn Go.Proofs.Try
set_option linter.unusedVariables false
def F23 : VFE := { cfg := { N := 66, T := T, R := R, con := fun _ f => lkF f [(25, C25)], var := [0, 1, 4], res := [4], eqs := EQ }, keys := [0, 1, 2, 3, 4], bkeys := [.loc 2, .loc 3] }
def S23 : Sig := { args := [.row (.pair (.int .i64) (.pair (.int .i64) (.pair (.int .i64) (.pair (.pair (.int .i64) (.int .i64)) (.pair (.int .i64) (.pair (.sl (.pair (.int .i64) (.pair .str (.int .i64)))) (.pair .str (.pair (.int .i64) .bool)))))))), .row (.pair (.int .i64) (.pair (.int .i64) (.pair (.int .i64) (.pair (.pair (.int .i64) (.int .i64)) (.pair (.int .i64) (.pair (.sl (.pair (.int .i64) (.pair .str (.int .i64)))) (.pair .str (.pair (.int .i64) .bool))))))))], boxes := [], res := [.one .b], rbox := [], frz := [] }
def L23 : Nat → Option LoopRec := fun _ => none
set_option maxRecDepth 100000 in
theorem run23 : ∀ x, gives F23 L23 f23 S23 x = (fun x => bitextref26_SameSegment x.1 x.2) x := by
  intro x
  kernel_rfl
theorem fn23 : FnCalls prog 23 (S23.F (fun x => bitextref26_SameSegment x.1 x.2)) := fn_sig (F := F23) (tbl := L23) func23 (by kernel_rfl) mix (cok_list (l := [(25, C25)]) (tabsT rfl rfl) rfl (List.forall_mem_cons.2 ⟨G25, by simp⟩)) (by kernel_rfl) (by kernel_rfl) (by decide) (fun _ => by kernel_rfl) run23
def C23 : Con := S23.con (by kernel_rfl) (fun x => bitextref26_SameSegment x.1 x.2)
theorem G23 : Good1 prog (23, C23) := good_of func23 (by kernel_rfl) (by kernel_rfl) fn23
end Go.Proofs.Ytdgpppkmlmbjoaa.ve
/- bitext/history.Of$1 -/
namespace Go.Proofs.Ytdgpppkmlmbjoaa.ve
open Go Go.Vs Go.Ve Go.Fn Go.Proofs.Try
set_option linter.unusedVariables false
def F36 : VFE := { cfg := { N := 14, T := T, R := R, con := fun _ f => lkF f [], var := [0, 2, 3], res := [3], eqs := EQ }, keys := [0, 1, 2, 3], bkeys := [.inb 0, .loc 2] }
def S36 : Sig := { args := [.row (.pair (.pair (.int .i64) (.pair (.int .i64) (.pair (.int .i64) (.pair (.pair (.int .i64) (.int .i64)) (.pair (.int .i64) (.pair (.sl (.pair (.int .i64) (.pair .str (.int .i64)))) (.pair .str (.pair (.int .i64) .bool)))))))) (.pair (.pair (.int .i64) (.pair (.int .i64) (.pair (.int .i64) (.pair (.pair (.int .i64) (.int .i64)) (.pair (.int .i64) (.pair (.sl (.pair (.int .i64) (.pair .str (.int .i64)))) (.pair .str (.pair (.int .i64) .bool)))))))) (.pair .str (.pair (.int .i64) .bool)))), .ptr (.inb 0) 0], boxes := [.row (.int .i64)], res := [.one .b], rbox := [[none]], frz := [] }
def L36 : Nat → Option LoopRec := fun _ => none
set_option maxRecDepth 100000 in
theorem run36 : ∀ x, gives F36 L36 f36 S36 x = (fun x => history_Of_1 x.1 x.2) x := by
  intro x
  kernel_rfl
theorem fn36 : FnCalls prog 36 (S36.F (fun x => history_Of_1 x.1 x.2)) := fn_sig (F := F36) (tbl := L36) func36 (by kernel_rfl) mix (cok_list (l := []) (tabsT rfl rfl) rfl (by simp)) (by kernel_rfl) (by kernel_rfl) (by decide) (fun _ => by kernel_rfl) run36
def C36 : Con := S36.con (by kernel_rfl) (fun x => history_Of_1 x.1 x.2)
theorem G36 : Good1 prog (36, C36) := good_of func36 (by kernel_rfl) (by kernel_rfl) fn36
end Go.Proofs.Ytdgpppkmlmbjoaa.ve
/- bitext/history.only -/
namespace Go.Proofs.Ytdgpppkmlmbjoaa.ve
open Go Go.Vs Go.Ve Go.Fn Go.Proofs.Try
set_option linter.unusedVariables false
def F32o : VFE := { cfg := { N := 24, T := T, R := R, con := fun _ f => lkF f [(42, C42), (36, C36)], var := [0, 1, 2, 3, 4, 5, 6, 7], res := [4], eqs := EQ }, keys := [0, 1, 4, 5, 7, 8, 9, 10, 11, 16], bkeys := [.inb 0, .loc 7] }
def S32o : Sig := { args := [.one (.n .data (.pair (.pair (.int .i64) (.pair (.int .i64) (.pair (.int .i64) (.pair (.pair (.int .i64) (.int .i64)) (.pair (.int .i64) (.pair (.sl (.pair (.int .i64) (.pair .str (.int .i64)))) (.pair .str (.pair (.int .i64) .bool)))))))) (.pair (.pair (.int .i64) (.pair (.int .i64) (.pair (.int .i64) (.pair (.pair (.int .i64) (.int .i64)) (.pair (.int .i64) (.pair (.sl (.pair (.int .i64) (.pair .str (.int .i64)))) (.pair .str (.pair (.int .i64) .bool)))))))) (.pair .str (.pair (.int .i64) .bool))))), .clo 36 [(.inb 0, 0)]], boxes := [.row (.int .i64)], res := [.one (.n .own (.pair (.pair (.int .i64) (.pair (.int .i64) (.pair (.int .i64) (.pair (.pair (.int .i64) (.int .i64)) (.pair (.int .i64) (.pair (.sl (.pair (.int .i64) (.pair .str (.int .i64)))) (.pair .str (.pair (.int .i64) .bool)))))))) (.pair (.pair (.int .i64) (.pair (.int .i64) (.pair (.int .i64) (.pair (.pair (.int .i64) (.int .i64)) (.pair (.int .i64) (.pair (.sl (.pair (.int .i64) (.pair .str (.int .i64)))) (.pair .str (.pair (.int .i64) .bool)))))))) (.pair .str (.pair (.int .i64) .bool)))))], rbox := [[none]], frz := [] }
def L32o : Nat → Option LoopRec := fun n => match n with
  | 0 => some { head := { live := [1, 5, 8, 9, 10], lbox := [(.inb 0)], vs := [.slot 5 (.n .own (.pair (.pair (.int .i64) (.pair (.int .i64) (.pair (.int .i64) (.pair (.pair (.int .i64) (.int .i64)) (.pair (.int .i64) (.pair (.sl (.pair (.int .i64) (.pair .str (.int .i64)))) (.pair .str (.pair (.int .i64) .bool)))))))) (.pair (.pair (.int .i64) (.pair (.int .i64) (.pair (.int .i64) (.pair (.pair (.int .i64) (.int .i64)) (.pair (.int .i64) (.pair (.sl (.pair (.int .i64) (.pair .str (.int .i64)))) (.pair .str (.pair (.int .i64) .bool)))))))) (.pair .str (.pair (.int .i64) .bool))))), .slot 10 (.i .i64)] }, exits := [(.exit 0, { live := [5], lbox := [(.inb 0)], vs := [.slot 5 (.n .own (.pair (.pair (.int .i64) (.pair (.int .i64) (.pair (.int .i64) (.pair (.pair (.int .i64) (.int .i64)) (.pair (.int .i64) (.pair (.sl (.pair (.int .i64) (.pair .str (.int .i64)))) (.pair .str (.pair (.int .i64) .bool)))))))) (.pair (.pair (.int .i64) (.pair (.int .i64) (.pair (.int .i64) (.pair (.pair (.int .i64) (.int .i64)) (.pair (.int .i64) (.pair (.sl (.pair (.int .i64) (.pair .str (.int .i64)))) (.pair .str (.pair (.int .i64) .bool)))))))) (.pair .str (.pair (.int .i64) .bool)))))] })] }
  | _ => none
set_option maxRecDepth 100000 in
theorem run32o : ∀ x, gives F32o L32o f32 S32o x = (fun x => history_only_o x.1 x.2) x := by
  intro x
  kernel_rfl
theorem fn32o : FnCalls prog 32 (S32o.F (fun x => history_only_o x.1 x.2)) := fn_sig (F := F32o) (tbl := L32o) func32 (by kernel_rfl) mix (cok_list (l := [(42, C42), (36, C36)]) (tabsT rfl rfl) rfl (List.forall_mem_cons.2 ⟨G42, List.forall_mem_cons.2 ⟨G36, by simp⟩⟩)) (by kernel_rfl) (by kernel_rfl) (by decide) (fun _ => by kernel_rfl) run32o
def C32o : Con := S32o.con (by kernel_rfl) (fun x => history_only_o x.1 x.2)
theorem G32o : Good1 prog (32, C32o) := good_of func32 (by kernel_rfl) (by kernel_rfl) fn32o
end Go.Proofs.Ytdgpppkmlmbjoaa.ve
/- bitext/history.Of -/
namespace Go.Proofs.Ytdgpppkmlmbjoaa.ve
open Go Go.Vs Go.Ve Go.Fn Go.Proofs.Try
set_option linter.unusedVariables false
def F20 : VFE := { cfg := { N := 8, T := T, R := R, con := fun _ f => lkF f [(32, C32o)], var := [0, 1, 2, 3, 4], res := [4], eqs := EQ }, keys := [0, 1, 3, 4], bkeys := [.loc 3] }
def S20 : Sig := { args := [.one (.n .data (.pair (.pair (.int .i64) (.pair (.int .i64) (.pair (.int .i64) (.pair (.pair (.int .i64) (.int .i64)) (.pair (.int .i64) (.pair (.sl (.pair (.int .i64) (.pair .str (.int .i64)))) (.pair .str (.pair (.int .i64) .bool)))))))) (.pair (.pair (.int .i64) (.pair (.int .i64) (.pair (.int .i64) (.pair (.pair (.int .i64) (.int .i64)) (.pair (.int .i64) (.pair (.sl (.pair (.int .i64) (.pair .str (.int .i64)))) (.pair .str (.pair (.int .i64) .bool)))))))) (.pair .str (.pair (.int .i64) .bool))))), .one (.i .i64)], boxes := [], res := [.one (.n .own (.pair (.pair (.int .i64) (.pair (.int .i64) (.pair (.int .i64) (.pair (.pair (.int .i64) (.int .i64)) (.pair (.int .i64) (.pair (.sl (.pair (.int .i64) (.pair .str (.int .i64)))) (.pair .str (.pair (.int .i64) .bool)))))))) (.pair (.pair (.int .i64) (.pair (.int .i64) (.pair (.int .i64) (.pair (.pair (.int .i64) (.int .i64)) (.pair (.int .i64) (.pair (.sl (.pair (.int .i64) (.pair .str (.int .i64)))) (.pair .str (.pair (.int .i64) .bool)))))))) (.pair .str (.pair (.int .i64) .bool)))))], rbox := [], frz := [] }
def L20 : Nat → Option LoopRec := fun _ => none
set_option maxRecDepth 100000 in
theorem run20 : ∀ x, gives F20 L20 f20 S20 x = (fun x => history_Of x.1 x.2) x := by
  intro x
  kernel_rfl
theorem fn20 : FnCalls prog 20 (S20.F (fun x => history_Of x.1 x.2)) := fn_sig (F := F20) (tbl := L20) func20 (by kernel_rfl) mix (cok_list (l := [(32, C32o)]) (tabsT rfl rfl) rfl (List.forall_mem_cons.2 ⟨G32o, by simp⟩)) (by kernel_rfl) (by kernel_rfl) (by decide) (fun _ => by kernel_rfl) run20
def C20 : Con := S20.con (by kernel_rfl) (fun x => history_Of x.1 x.2)
theorem G20 : Good1 prog (20, C20) := good_of func20 (by kernel_rfl) (by kernel_rfl) fn20
end Go.Proofs.Ytdgpppkmlmbjoaa.ve
/- bitext/bitextlaw30.known -/
namespace Go.Proofs.Ytdgpppkmlmbjoaa.ve
open Go Go.Vs Go.Ve Go.Fn Go.Proofs.Try
set_option linter.unusedVariables false
def F11 : VFE := { cfg := { N := 83, T := T, R := R, con := fun _ f => lkF f [(34, C34), (10, C10d), (26, C26), (23, C23), (20, C20)], var := [0, 1, 2, 3, 4, 5, 6, 7, 8, 9, 10, 11, 12, 13], res := [0], eqs := EQ, dat := [2, 5, 8] }, keys := [0, 1, 2, 3, 4, 5, 6, 7, 8, 9, 10, 13], bkeys := [.loc 1, .loc 6, .loc 9, .loc 12] }
def S11 : Sig := { args := [], boxes := [], res := [.one .b], rbox := [], frz := [] }
def L11 : Nat → Option LoopRec := fun _ => none
set_option maxRecDepth 100000 in
theorem run11 : ∀ x, gives F11 L11 f11 S11 x = (fun _ => bitextlaw30_known) x := by
  intro x
  kernel_rfl
theorem fn11 : FnCalls prog 11 (S11.F (fun _ => bitextlaw30_known)) := fn_sig (F := F11) (tbl := L11) func11 (by kernel_rfl) mix (cok_list (l := [(34, C34), (10, C10d), (26, C26), (23, C23), (20, C20)]) (tabsT rfl rfl) rfl (List.forall_mem_cons.2 ⟨G34, List.forall_mem_cons.2 ⟨G10d, List.forall_mem_cons.2 ⟨G26, List.forall_mem_cons.2 ⟨G23, List.forall_mem_cons.2 ⟨G20, by simp⟩⟩⟩⟩⟩)) (by kernel_rfl) (by kernel_rfl) (by decide) (fun _ => by kernel_rfl) run11
def C11 : Con := S11.con (by kernel_rfl) (fun _ => bitextlaw30_known)
theorem G11 : Good1 prog (11, C11) := good_of func11 (by kernel_rfl) (by kernel_rfl) fn11
end Go.Proofs.Ytdgpppkmlmbjoaa.ve
/- bitext/bitextlaw30.from -/
namespace Go.Proofs.Ytdgpppkmlmbjoaa.ve
open Go Go.Vs Go.Ve Go.Fn Go.Proofs.Try
set_option linter.unusedVariables false
def F14 : VFE := { cfg := { N := 6, T := T, R := R, con := fun _ f => lkF f [], var := [0, 1, 2], res := [2], eqs := EQ }, keys := [0, 2], bkeys := [.loc 5] }
def S14 : Sig := { args := [.one (.n .data (.int .i64))], boxes := [], res := [.ptr (.inb 0) 0], rbox := [[some (.n .data (.int .i64)), some (.i .i64)]], frz := [] }
def L14 : Nat → Option LoopRec := fun _ => none
set_option maxRecDepth 100000 in
theorem run14 : ∀ x, gives F14 L14 f14 S14 x = (fun x => bitextlaw30_from x) x := by
  intro x
  kernel_rfl
theorem fn14 : FnCalls prog 14 (S14.F (fun x => bitextlaw30_from x)) := fn_sig (F := F14) (tbl := L14) func14 (by kernel_rfl) mix (cok_list (l := []) (tabsT rfl rfl) rfl (by simp)) (by kernel_rfl) (by kernel_rfl) (by decide) (fun _ => by kernel_rfl) run14
def C14 : Con := S14.con (by kernel_rfl) (fun x => bitextlaw30_from x)
theorem G14 : Good1 prog (14, C14) := good_of func14 (by kernel_rfl) (by kernel_rfl) fn14
end Go.Proofs.Ytdgpppkmlmbjoaa.ve
/- bitext/bitextmake.Place -/
namespace Go.Proofs.Ytdgpppkmlmbjoaa.ve
open Go Go.Vs Go.Ve Go.Fn Go.Proofs.Try
set_option linter.unusedVariables false
def F9 : VFE := { cfg := { N := 14, T := T, R := R, con := fun _ f => lkF f [], var := [0, 1, 2, 3, 4], res := [4], eqs := EQ }, keys := [0, 1, 4, 9], bkeys := [] }
def S9 : Sig := { args := [.one (.i .i64), .one (.i .i64)], boxes := [], res := [.one (.i .i64)], rbox := [], frz := [] }
def L9 : Nat → Option LoopRec := fun _ => none
set_option maxRecDepth 100000 in
theorem run9 : ∀ x, gives F9 L9 f9 S9 x = (fun x => bitextmake_Place x.1 x.2) x := by
  intro x
  kernel_rfl
theorem fn9 : FnCalls prog 9 (S9.F (fun x => bitextmake_Place x.1 x.2)) := fn_sig (F := F9) (tbl := L9) func9 (by kernel_rfl) mix (cok_list (l := []) (tabsT rfl rfl) rfl (by simp)) (by kernel_rfl) (by kernel_rfl) (by decide) (fun _ => by kernel_rfl) run9
def C9 : Con := S9.con (by kernel_rfl) (fun x => bitextmake_Place x.1 x.2)
theorem G9 : Good1 prog (9, C9) := good_of func9 (by kernel_rfl) (by kernel_rfl) fn9
end Go.Proofs.Ytdgpppkmlmbjoaa.ve
/- (*bitext/bitextmake.Numbers).Next -/
namespace Go.Proofs.Ytdgpppkmlmbjoaa.ve
open Go Go.Vs Go.Ve Go.Fn Go.Proofs.Try
set_option linter.unusedVariables false
def F17 : VFE := { cfg := { N := 36, T := T, R := R, con := fun _ f => lkF f [(9, C9)], var := [0, 1, 2, 3, 4, 5], res := [4], eqs := EQ }, keys := [0, 1, 4, 5, 15], bkeys := [.inb 0] }
def S17 : Sig := { args := [.ptr (.inb 0) 0, .one (.i .i64)], boxes := [.row (.pair (.sl (.int .i64)) (.int .i64))], res := [.one (.i .i64)], rbox := [[none, some (.i .i64)]], frz := [] }
def L17 : Nat → Option LoopRec := fun _ => none
set_option maxRecDepth 100000 in
theorem run17 : ∀ x, gives F17 L17 f17 S17 x = (fun x => bitextmake_Numbers_Next x.1 x.2) x := by
  intro x
  kernel_rfl
theorem fn17 : FnCalls prog 17 (S17.F (fun x => bitextmake_Numbers_Next x.1 x.2)) := fn_sig (F := F17) (tbl := L17) func17 (by kernel_rfl) mix (cok_list (l := [(9, C9)]) (tabsT rfl rfl) rfl (List.forall_mem_cons.2 ⟨G9, by simp⟩)) (by kernel_rfl) (by kernel_rfl) (by decide) (fun _ => by kernel_rfl) run17
def C17 : Con := S17.con (by kernel_rfl) (fun x => bitextmake_Numbers_Next x.1 x.2)
theorem G17 : Good1 prog (17, C17) := good_of func17 (by kernel_rfl) (by kernel_rfl) fn17
end Go.Proofs.Ytdgpppkmlmbjoaa.ve
/- bitext/bitextlaw30.step$1 -/
namespace Go.Proofs.Ytdgpppkmlmbjoaa.ve
open Go Go.Vs Go.Ve Go.Fn Go.Proofs.Try
set_option linter.unusedVariables false
def F35 : VFE := { cfg := { N := 30, T := T, R := R, con := fun _ f => lkF f [(17, C17), (34, C34)], var := [3, 13, 17, 22, 25], res := [], eqs := EQ }, keys := [0, 1, 2, 3, 12, 13, 17, 22, 25], bkeys := [.inb 0, .inb 1, .inb 2, .loc 2, .loc 3] }
def S35 : Sig := { args := [.ptr (.inb 0) 0, .ptr (.inb 1) 0], boxes := [.row (.int .i64), .cptr (.inb 2) 0, .row (.pair (.sl (.int .i64)) (.int .i64))], res := [.row (.pair (.int .i64) (.pair (.int .i64) (.pair (.int .i64) (.pair (.pair (.int .i64) (.int .i64)) (.pair (.int .i64) (.pair (.sl (.pair (.int .i64) (.pair .str (.int .i64)))) (.pair .str (.pair (.int .i64) .bool))))))))], rbox := [[none], [none], [none, some (.i .i64)]], frz := [] }
def L35 : Nat → Option LoopRec := fun _ => none
set_option maxRecDepth 100000 in
theorem run35 : ∀ x, gives F35 L35 f35 S35 x = (fun x => bitextlaw30_step_1 x.1 x.2) x := by
  intro x
  kernel_rfl
theorem fn35 : FnCalls prog 35 (S35.F (fun x => bitextlaw30_step_1 x.1 x.2)) := fn_sig (F := F35) (tbl := L35) func35 (by kernel_rfl) mix (cok_list (l := [(17, C17), (34, C34)]) (tabsT rfl rfl) rfl (List.forall_mem_cons.2 ⟨G17, List.forall_mem_cons.2 ⟨G34, by simp⟩⟩)) (by kernel_rfl) (by kernel_rfl) (by decide) (fun _ => by kernel_rfl) run35
def C35 : Con := S35.con (by kernel_rfl) (fun x => bitextlaw30_step_1 x.1 x.2)
theorem G35 : Good1 prog (35, C35) := good_of func35 (by kernel_rfl) (by kernel_rfl) fn35
end Go.Proofs.Ytdgpppkmlmbjoaa.ve
/- bitext/bitextlaw30.step -/
namespace Go.Proofs.Ytdgpppkmlmbjoaa.ve
open Go Go.Vs Go.Ve Go.Fn Go.Proofs.Try
set_option linter.unusedVariables false
def F16 : VFE := { cfg := { N := 16, T := T, R := R, con := fun _ f => lkF f [(17, C17), (35, C35)], var := [0, 1, 3, 4], res := [], eqs := EQ }, keys := [0, 1, 2, 3, 4], bkeys := [.inb 0, .loc 1, .loc 2, .loc 3] }
def S16 : Sig := { args := [.ptr (.inb 0) 0], boxes := [.row (.pair (.sl (.int .i64)) (.int .i64))], res := [.row (.pair (.pair (.int .i64) (.pair (.int .i64) (.pair (.int .i64) (.pair (.pair (.int .i64) (.int .i64)) (.pair (.int .i64) (.pair (.sl (.pair (.int .i64) (.pair .str (.int .i64)))) (.pair .str (.pair (.int .i64) .bool)))))))) (.pair (.pair (.int .i64) (.pair (.int .i64) (.pair (.int .i64) (.pair (.pair (.int .i64) (.int .i64)) (.pair (.int .i64) (.pair (.sl (.pair (.int .i64) (.pair .str (.int .i64)))) (.pair .str (.pair (.int .i64) .bool)))))))) (.pair .str (.pair (.int .i64) .bool))))], rbox := [[none, some (.i .i64)]], frz := [] }
def L16 : Nat → Option LoopRec := fun _ => none
set_option maxRecDepth 100000 in
theorem run16 : ∀ x, gives F16 L16 f16 S16 x = (fun x => bitextlaw30_step x) x := by
  intro x
  kernel_rfl
theorem fn16 : FnCalls prog 16 (S16.F (fun x => bitextlaw30_step x)) := fn_sig (F := F16) (tbl := L16) func16 (by kernel_rfl) mix (cok_list (l := [(17, C17), (35, C35)]) (tabsT rfl rfl) rfl (List.forall_mem_cons.2 ⟨G17, List.forall_mem_cons.2 ⟨G35, by simp⟩⟩)) (by kernel_rfl) (by kernel_rfl) (by decide) (fun _ => by kernel_rfl) run16
def C16 : Con := S16.con (by kernel_rfl) (fun x => bitextlaw30_step x)
theorem G16 : Good1 prog (16, C16) := good_of func16 (by kernel_rfl) (by kernel_rfl) fn16
end Go.Proofs.Ytdgpppkmlmbjoaa.ve
/- bitext/bitextref28.Plain -/
namespace Go.Proofs.Ytdgpppkmlmbjoaa.ve
open Go Go.Vs Go.Ve Go.Fn Go.Proofs.Try
set_option linter.unusedVariables false
def F24 : VFE := { cfg := { N := 10, T := T, R := R, con := fun _ f => lkF f [], var := [0, 1], res := [], eqs := EQ }, keys := [0, 1, 2, 5], bkeys := [.loc 1, .loc 2] }
def S24 : Sig := { args := [.row (.pair (.int .i64) (.pair (.int .i64) (.pair (.int .i64) (.pair (.pair (.int .i64) (.int .i64)) (.pair (.int .i64) (.pair (.sl (.pair (.int .i64) (.pair .str (.int .i64)))) (.pair .str (.pair (.int .i64) .bool))))))))], boxes := [], res := [.row (.pair (.int .i64) (.pair (.int .i64) (.pair (.int .i64) (.pair (.pair (.int .i64) (.int .i64)) (.pair (.int .i64) (.pair (.sl (.pair (.int .i64) (.pair .str (.int .i64)))) (.pair .str (.pair (.int .i64) .bool))))))))], rbox := [], frz := [] }
def L24 : Nat → Option LoopRec := fun _ => none
set_option maxRecDepth 100000 in
theorem run24 : ∀ x, gives F24 L24 f24 S24 x = (fun x => bitextref28_Plain x) x := by
  intro x
  kernel_rfl
theorem fn24 : FnCalls prog 24 (S24.F (fun x => bitextref28_Plain x)) := fn_sig (F := F24) (tbl := L24) func24 (by kernel_rfl) mix (cok_list (l := []) (tabsT rfl rfl) rfl (by simp)) (by kernel_rfl) (by kernel_rfl) (by decide) (fun _ => by kernel_rfl) run24
def C24 : Con := S24.con (by kernel_rfl) (fun x => bitextref28_Plain x)
theorem G24 : Good1 prog (24, C24) := good_of func24 (by kernel_rfl) (by kernel_rfl) fn24
end Go.Proofs.Ytdgpppkmlmbjoaa.ve
/- bitext/bitextref28.Record -/
namespace Go.Proofs.Ytdgpppkmlmbjoaa.ve
open Go Go.Vs Go.Ve Go.Fn Go.Proofs.Try
set_option linter.unusedVariables false
def F18 : VFE := { cfg := { N := 64, T := T, R := R, con := fun _ f => lkF f [(24, C24)], var := [0, 1, 2, 3, 4, 5, 6, 7, 8], res := [4, 5], eqs := EQ }, keys := [0, 1, 3, 4, 5, 6, 8, 25, 26, 27, 28, 29, 43, 51], bkeys := [.loc 3, .loc 8] }
def S18 : Sig := { args := [.one (.n .data (.pair (.pair (.int .i64) (.pair (.int .i64) (.pair (.int .i64) (.pair (.pair (.int .i64) (.int .i64)) (.pair (.int .i64) (.pair (.sl (.pair (.int .i64) (.pair .str (.int .i64)))) (.pair .str (.pair (.int .i64) .bool)))))))) (.pair (.pair (.int .i64) (.pair (.int .i64) (.pair (.int .i64) (.pair (.pair (.int .i64) (.int .i64)) (.pair (.int .i64) (.pair (.sl (.pair (.int .i64) (.pair .str (.int .i64)))) (.pair .str (.pair (.int .i64) .bool)))))))) (.pair .str (.pair (.int .i64) .bool))))), .row (.pair (.pair (.int .i64) (.pair (.int .i64) (.pair (.int .i64) (.pair (.pair (.int .i64) (.int .i64)) (.pair (.int .i64) (.pair (.sl (.pair (.int .i64) (.pair .str (.int .i64)))) (.pair .str (.pair (.int .i64) .bool)))))))) (.pair (.pair (.int .i64) (.pair (.int .i64) (.pair (.int .i64) (.pair (.pair (.int .i64) (.int .i64)) (.pair (.int .i64) (.pair (.sl (.pair (.int .i64) (.pair .str (.int .i64)))) (.pair .str (.pair (.int .i64) .bool)))))))) (.pair .str (.pair (.int .i64) .bool))))], boxes := [], res := [.one (.n .own (.pair (.pair (.int .i64) (.pair (.int .i64) (.pair (.int .i64) (.pair (.pair (.int .i64) (.int .i64)) (.pair (.int .i64) (.pair (.sl (.pair (.int .i64) (.pair .str (.int .i64)))) (.pair .str (.pair (.int .i64) .bool)))))))) (.pair (.pair (.int .i64) (.pair (.int .i64) (.pair (.int .i64) (.pair (.pair (.int .i64) (.int .i64)) (.pair (.int .i64) (.pair (.sl (.pair (.int .i64) (.pair .str (.int .i64)))) (.pair .str (.pair (.int .i64) .bool)))))))) (.pair .str (.pair (.int .i64) .bool))))), .one (.i .i64)], rbox := [], frz := [] }
def L18 : Nat → Option LoopRec := fun n => match n with
  | 0 => some { head := { live := [3, 6, 26, 27, 28], lbox := [(.loc 3)], vs := [.slot 6 (.n .own (.pair (.pair (.int .i64) (.pair (.int .i64) (.pair (.int .i64) (.pair (.pair (.int .i64) (.int .i64)) (.pair (.int .i64) (.pair (.sl (.pair (.int .i64) (.pair .str (.int .i64)))) (.pair .str (.pair (.int .i64) .bool)))))))) (.pair (.pair (.int .i64) (.pair (.int .i64) (.pair (.int .i64) (.pair (.pair (.int .i64) (.int .i64)) (.pair (.int .i64) (.pair (.sl (.pair (.int .i64) (.pair .str (.int .i64)))) (.pair .str (.pair (.int .i64) .bool)))))))) (.pair .str (.pair (.int .i64) .bool))))), .slot 28 (.i .i64)] }, exits := [(.exit 0, { live := [3, 6], lbox := [(.loc 3)], vs := [.slot 6 (.n .own (.pair (.pair (.int .i64) (.pair (.int .i64) (.pair (.int .i64) (.pair (.pair (.int .i64) (.int .i64)) (.pair (.int .i64) (.pair (.sl (.pair (.int .i64) (.pair .str (.int .i64)))) (.pair .str (.pair (.int .i64) .bool)))))))) (.pair (.pair (.int .i64) (.pair (.int .i64) (.pair (.int .i64) (.pair (.pair (.int .i64) (.int .i64)) (.pair (.int .i64) (.pair (.sl (.pair (.int .i64) (.pair .str (.int .i64)))) (.pair .str (.pair (.int .i64) .bool)))))))) (.pair .str (.pair (.int .i64) .bool)))))] })] }
  | _ => none
set_option maxRecDepth 100000 in
theorem run18 : ∀ x, gives F18 L18 f18 S18 x = (fun x => bitextref28_Record x.1 x.2) x := by
  intro x
  kernel_rfl
theorem fn18 : FnCalls prog 18 (S18.F (fun x => bitextref28_Record x.1 x.2)) := fn_sig (F := F18) (tbl := L18) func18 (by kernel_rfl) mix (cok_list (l := [(24, C24)]) (tabsT rfl rfl) rfl (List.forall_mem_cons.2 ⟨G24, by simp⟩)) (by kernel_rfl) (by kernel_rfl) (by decide) (fun _ => by kernel_rfl) run18
def C18 : Con := S18.con (by kernel_rfl) (fun x => bitextref28_Record x.1 x.2)
theorem G18 : Good1 prog (18, C18) := good_of func18 (by kernel_rfl) (by kernel_rfl) fn18
end Go.Proofs.Ytdgpppkmlmbjoaa.ve
/- bitext/bitextref28.lastDone -/
namespace Go.Proofs.Ytdgpppkmlmbjoaa.ve
open Go Go.Vs Go.Ve Go.Fn Go.Proofs.Try
set_option linter.unusedVariables false
def F40 : VFE := { cfg := { N := 28, T := T, R := R, con := fun _ f => lkF f [], var := [0, 1, 2, 3, 4, 5, 6, 7], res := [4], eqs := EQ }, keys := [0, 1, 4, 5, 6, 7, 8, 9, 10, 11, 24], bkeys := [.loc 7] }
def S40 : Sig := { args := [.one (.n .data (.pair (.pair (.int .i64) (.pair (.int .i64) (.pair (.int .i64) (.pair (.pair (.int .i64) (.int .i64)) (.pair (.int .i64) (.pair (.sl (.pair (.int .i64) (.pair .str (.int .i64)))) (.pair .str (.pair (.int .i64) .bool)))))))) (.pair (.pair (.int .i64) (.pair (.int .i64) (.pair (.int .i64) (.pair (.pair (.int .i64) (.int .i64)) (.pair (.int .i64) (.pair (.sl (.pair (.int .i64) (.pair .str (.int .i64)))) (.pair .str (.pair (.int .i64) .bool)))))))) (.pair .str (.pair (.int .i64) .bool))))), .one (.i .i64)], boxes := [], res := [.one (.i .i64)], rbox := [], frz := [] }
def L40 : Nat → Option LoopRec := fun n => match n with
  | 0 => some { head := { live := [1, 5, 8, 9, 10], lbox := [], vs := [.slot 5 (.i .i64), .slot 10 (.i .i64)] }, exits := [(.exit 0, { live := [5], lbox := [], vs := [.slot 5 (.i .i64)] })] }
  | _ => none
set_option maxRecDepth 100000 in
theorem run40 : ∀ x, gives F40 L40 f40 S40 x = (fun x => bitextref28_lastDone x.1 x.2) x := by
  intro x
  kernel_rfl
theorem fn40 : FnCalls prog 40 (S40.F (fun x => bitextref28_lastDone x.1 x.2)) := fn_sig (F := F40) (tbl := L40) func40 (by kernel_rfl) mix (cok_list (l := []) (tabsT rfl rfl) rfl (by simp)) (by kernel_rfl) (by kernel_rfl) (by decide) (fun _ => by kernel_rfl) run40
def C40 : Con := S40.con (by kernel_rfl) (fun x => bitextref28_lastDone x.1 x.2)
theorem G40 : Good1 prog (40, C40) := good_of func40 (by kernel_rfl) (by kernel_rfl) fn40
end Go.Proofs.Ytdgpppkmlmbjoaa.ve
/- bitext/bitextref28.marked -/
namespace Go.Proofs.Ytdgpppkmlmbjoaa.ve
open Go Go.Vs Go.Ve Go.Fn Go.Proofs.Try
set_option linter.unusedVariables false
def F41 : VFE := { cfg := { N := 17, T := T, R := R, con := fun _ f => lkF f [], var := [0, 1, 2, 3, 4, 5, 6, 7], res := [6], eqs := EQ }, keys := [0, 1, 2, 6, 7], bkeys := [] }
def S41 : Sig := { args := [.one (.n .data (.pair (.pair (.int .i64) (.pair (.int .i64) (.pair (.int .i64) (.pair (.pair (.int .i64) (.int .i64)) (.pair (.int .i64) (.pair (.sl (.pair (.int .i64) (.pair .str (.int .i64)))) (.pair .str (.pair (.int .i64) .bool)))))))) (.pair (.pair (.int .i64) (.pair (.int .i64) (.pair (.int .i64) (.pair (.pair (.int .i64) (.int .i64)) (.pair (.int .i64) (.pair (.sl (.pair (.int .i64) (.pair .str (.int .i64)))) (.pair .str (.pair (.int .i64) .bool)))))))) (.pair .str (.pair (.int .i64) .bool))))), .one (.i .i64), .one .b], boxes := [], res := [.one (.n .own (.pair (.pair (.int .i64) (.pair (.int .i64) (.pair (.int .i64) (.pair (.pair (.int .i64) (.int .i64)) (.pair (.int .i64) (.pair (.sl (.pair (.int .i64) (.pair .str (.int .i64)))) (.pair .str (.pair (.int .i64) .bool)))))))) (.pair (.pair (.int .i64) (.pair (.int .i64) (.pair (.int .i64) (.pair (.pair (.int .i64) (.int .i64)) (.pair (.int .i64) (.pair (.sl (.pair (.int .i64) (.pair .str (.int .i64)))) (.pair .str (.pair (.int .i64) .bool)))))))) (.pair .str (.pair (.int .i64) .bool)))))], rbox := [], frz := [] }
def L41 : Nat → Option LoopRec := fun _ => none
set_option maxRecDepth 100000 in
theorem run41 : ∀ x, gives F41 L41 f41 S41 x = (fun x => bitextref28_marked x.1 x.2.1 x.2.2) x := by
  intro x
  kernel_rfl
theorem fn41 : FnCalls prog 41 (S41.F (fun x => bitextref28_marked x.1 x.2.1 x.2.2)) := fn_sig (F := F41) (tbl := L41) func41 (by kernel_rfl) mix (cok_list (l := []) (tabsT rfl rfl) rfl (by simp)) (by kernel_rfl) (by kernel_rfl) (by decide) (fun _ => by kernel_rfl) run41
def C41 : Con := S41.con (by kernel_rfl) (fun x => bitextref28_marked x.1 x.2.1 x.2.2)
theorem G41 : Good1 prog (41, C41) := good_of func41 (by kernel_rfl) (by kernel_rfl) fn41
end Go.Proofs.Ytdgpppkmlmbjoaa.ve
/- bitext/bitextref28.Undo -/
namespace Go.Proofs.Ytdgpppkmlmbjoaa.ve
open Go Go.Vs Go.Ve Go.Fn Go.Proofs.Try
set_option linter.unusedVariables false
def F27 : VFE := { cfg := { N := 36, T := T, R := R, con := fun _ f => lkF f [(40, C40), (41, C41)], var := [0, 1, 2, 3, 4, 6, 7], res := [4, 6], eqs := EQ }, keys := [0, 1, 4, 5, 6, 7, 12, 26], bkeys := [.loc 5] }
def S27 : Sig := { args := [.one (.n .data (.pair (.pair (.int .i64) (.pair (.int .i64) (.pair (.int .i64) (.pair (.pair (.int .i64) (.int .i64)) (.pair (.int .i64) (.pair (.sl (.pair (.int .i64) (.pair .str (.int .i64)))) (.pair .str (.pair (.int .i64) .bool)))))))) (.pair (.pair (.int .i64) (.pair (.int .i64) (.pair (.int .i64) (.pair (.pair (.int .i64) (.int .i64)) (.pair (.int .i64) (.pair (.sl (.pair (.int .i64) (.pair .str (.int .i64)))) (.pair .str (.pair (.int .i64) .bool)))))))) (.pair .str (.pair (.int .i64) .bool))))), .one (.i .i64)], boxes := [], res := [.one (.n .own (.pair (.pair (.int .i64) (.pair (.int .i64) (.pair (.int .i64) (.pair (.pair (.int .i64) (.int .i64)) (.pair (.int .i64) (.pair (.sl (.pair (.int .i64) (.pair .str (.int .i64)))) (.pair .str (.pair (.int .i64) .bool)))))))) (.pair (.pair (.int .i64) (.pair (.int .i64) (.pair (.int .i64) (.pair (.pair (.int .i64) (.int .i64)) (.pair (.int .i64) (.pair (.sl (.pair (.int .i64) (.pair .str (.int .i64)))) (.pair .str (.pair (.int .i64) .bool)))))))) (.pair .str (.pair (.int .i64) .bool))))), .row (.pair (.int .i64) (.pair (.int .i64) (.pair (.int .i64) (.pair (.pair (.int .i64) (.int .i64)) (.pair (.int .i64) (.pair (.sl (.pair (.int .i64) (.pair .str (.int .i64)))) (.pair .str (.pair (.int .i64) .bool)))))))), .one (.i .i64)], rbox := [], frz := [] }
def L27 : Nat → Option LoopRec := fun _ => none
set_option maxRecDepth 100000 in
theorem run27 : ∀ x, gives F27 L27 f27 S27 x = (fun x => bitextref28_Undo x.1 x.2) x := by
  intro x
  kernel_rfl
theorem fn27 : FnCalls prog 27 (S27.F (fun x => bitextref28_Undo x.1 x.2)) := fn_sig (F := F27) (tbl := L27) func27 (by kernel_rfl) mix (cok_list (l := [(40, C40), (41, C41)]) (tabsT rfl rfl) rfl (List.forall_mem_cons.2 ⟨G40, List.forall_mem_cons.2 ⟨G41, by simp⟩⟩)) (by kernel_rfl) (by kernel_rfl) (by decide) (fun _ => by kernel_rfl) run27
def C27 : Con := S27.con (by kernel_rfl) (fun x => bitextref28_Undo x.1 x.2)
theorem G27 : Good1 prog (27, C27) := good_of func27 (by kernel_rfl) (by kernel_rfl) fn27
end Go.Proofs.Ytdgpppkmlmbjoaa.ve
/- bitext/bitextref28.Redo -/
namespace Go.Proofs.Ytdgpppkmlmbjoaa.ve
open Go Go.Vs Go.Ve Go.Fn Go.Proofs.Try
set_option linter.unusedVariables false
def F29 : VFE := { cfg := { N := 35, T := T, R := R, con := fun _ f => lkF f [(40, C40), (41, C41)], var := [0, 1, 2, 3, 4, 6, 7], res := [4, 6], eqs := EQ }, keys := [0, 1, 4, 5, 6, 7, 15, 25], bkeys := [.loc 5] }
def S29 : Sig := { args := [.one (.n .data (.pair (.pair (.int .i64) (.pair (.int .i64) (.pair (.int .i64) (.pair (.pair (.int .i64) (.int .i64)) (.pair (.int .i64) (.pair (.sl (.pair (.int .i64) (.pair .str (.int .i64)))) (.pair .str (.pair (.int .i64) .bool)))))))) (.pair (.pair (.int .i64) (.pair (.int .i64) (.pair (.int .i64) (.pair (.pair (.int .i64) (.int .i64)) (.pair (.int .i64) (.pair (.sl (.pair (.int .i64) (.pair .str (.int .i64)))) (.pair .str (.pair (.int .i64) .bool)))))))) (.pair .str (.pair (.int .i64) .bool))))), .one (.i .i64)], boxes := [], res := [.one (.n .own (.pair (.pair (.int .i64) (.pair (.int .i64) (.pair (.int .i64) (.pair (.pair (.int .i64) (.int .i64)) (.pair (.int .i64) (.pair (.sl (.pair (.int .i64) (.pair .str (.int .i64)))) (.pair .str (.pair (.int .i64) .bool)))))))) (.pair (.pair (.int .i64) (.pair (.int .i64) (.pair (.int .i64) (.pair (.pair (.int .i64) (.int .i64)) (.pair (.int .i64) (.pair (.sl (.pair (.int .i64) (.pair .str (.int .i64)))) (.pair .str (.pair (.int .i64) .bool)))))))) (.pair .str (.pair (.int .i64) .bool))))), .row (.pair (.int .i64) (.pair (.int .i64) (.pair (.int .i64) (.pair (.pair (.int .i64) (.int .i64)) (.pair (.int .i64) (.pair (.sl (.pair (.int .i64) (.pair .str (.int .i64)))) (.pair .str (.pair (.int .i64) .bool)))))))), .one (.i .i64)], rbox := [], frz := [] }
def L29 : Nat → Option LoopRec := fun n => match n with
  | 0 => some { head := { live := [0, 1, 5, 7], lbox := [(.loc 5)], vs := [.slot 7 (.i .i64)] }, exits := [(.ret, { live := [4, 5, 6], lbox := [(.loc 5)], vs := [.slot 4 (.n .own (.pair (.pair (.int .i64) (.pair (.int .i64) (.pair (.int .i64) (.pair (.pair (.int .i64) (.int .i64)) (.pair (.int .i64) (.pair (.sl (.pair (.int .i64) (.pair .str (.int .i64)))) (.pair .str (.pair (.int .i64) .bool)))))))) (.pair (.pair (.int .i64) (.pair (.int .i64) (.pair (.int .i64) (.pair (.pair (.int .i64) (.int .i64)) (.pair (.int .i64) (.pair (.sl (.pair (.int .i64) (.pair .str (.int .i64)))) (.pair .str (.pair (.int .i64) .bool)))))))) (.pair .str (.pair (.int .i64) .bool))))), .slot 6 (.i .i64), .cell (.loc 5) 0 (.i .i64), .cell (.loc 5) 1 (.i .i64), .cell (.loc 5) 2 (.i .i64), .cell (.loc 5) 3 (.i .i64), .cell (.loc 5) 4 (.i .i64), .cell (.loc 5) 5 (.i .i64), .cell (.loc 5) 6 (.n .data (.pair (.int .i64) (.pair .str (.int .i64)))), .cell (.loc 5) 7 .s, .cell (.loc 5) 8 (.i .i64), .cell (.loc 5) 9 .b] }), (.exit 0, { live := [5], lbox := [(.loc 5)], vs := [] })] }
  | _ => none
set_option maxRecDepth 100000 in
theorem run29 : ∀ x, gives F29 L29 f29 S29 x = (fun x => bitextref28_Redo x.1 x.2) x := by
  intro x
  kernel_rfl
theorem fn29 : FnCalls prog 29 (S29.F (fun x => bitextref28_Redo x.1 x.2)) := fn_sig (F := F29) (tbl := L29) func29 (by kernel_rfl) mix (cok_list (l := [(40, C40), (41, C41)]) (tabsT rfl rfl) rfl (List.forall_mem_cons.2 ⟨G40, List.forall_mem_cons.2 ⟨G41, by simp⟩⟩)) (by kernel_rfl) (by kernel_rfl) (by decide) (fun _ => by kernel_rfl) run29
def C29 : Con := S29.con (by kernel_rfl) (fun x => bitextref28_Redo x.1 x.2)
theorem G29 : Good1 prog (29, C29) := good_of func29 (by kernel_rfl) (by kernel_rfl) fn29
end Go.Proofs.Ytdgpppkmlmbjoaa.ve
/- bitext/bitextlaw30.steps -/
namespace Go.Proofs.Ytdgpppkmlmbjoaa.ve
open Go Go.Vs Go.Ve Go.Fn Go.Proofs.Try
set_option linter.unusedVariables false
def F15 : VFE := { cfg := { N := 51, T := T, R := R, con := fun _ f => lkF f [(14, C14), (17, C17), (16, C16), (18, C18), (27, C27), (29, C29)], var := [0, 1, 2, 3, 4, 5, 6, 7, 25, 36], res := [2], eqs := EQ, outd := true }, keys := [0, 2, 3, 4, 5, 6, 7, 13, 24, 25, 36, 48], bkeys := [.esc 9 0] }
def S15 : Sig := { args := [.one (.n .data (.int .i64))], boxes := [], res := [.one (.n .data (.pair (.pair (.int .i64) (.pair (.int .i64) (.pair (.int .i64) (.pair (.pair (.int .i64) (.int .i64)) (.pair (.int .i64) (.pair (.sl (.pair (.int .i64) (.pair .str (.int .i64)))) (.pair .str (.pair (.int .i64) .bool)))))))) (.pair (.pair (.int .i64) (.pair (.int .i64) (.pair (.int .i64) (.pair (.pair (.int .i64) (.int .i64)) (.pair (.int .i64) (.pair (.sl (.pair (.int .i64) (.pair .str (.int .i64)))) (.pair .str (.pair (.int .i64) .bool)))))))) (.pair .str (.pair (.int .i64) .bool)))))], rbox := [], frz := [] }
def L15 : Nat → Option LoopRec := fun n => match n with
  | 0 => some { head := { live := [3, 4, 5], lbox := [(.esc 9 0)], vs := [.slot 4 (.n .data (.pair (.pair (.int .i64) (.pair (.int .i64) (.pair (.int .i64) (.pair (.pair (.int .i64) (.int .i64)) (.pair (.int .i64) (.pair (.sl (.pair (.int .i64) (.pair .str (.int .i64)))) (.pair .str (.pair (.int .i64) .bool)))))))) (.pair (.pair (.int .i64) (.pair (.int .i64) (.pair (.int .i64) (.pair (.pair (.int .i64) (.int .i64)) (.pair (.int .i64) (.pair (.sl (.pair (.int .i64) (.pair .str (.int .i64)))) (.pair .str (.pair (.int .i64) .bool)))))))) (.pair .str (.pair (.int .i64) .bool))))), .slot 5 (.i .i64), .cell (.esc 9 0) 1 (.i .i64)] }, exits := [(.exit 0, { live := [4], lbox := [], vs := [.slot 4 (.n .data (.pair (.pair (.int .i64) (.pair (.int .i64) (.pair (.int .i64) (.pair (.pair (.int .i64) (.int .i64)) (.pair (.int .i64) (.pair (.sl (.pair (.int .i64) (.pair .str (.int .i64)))) (.pair .str (.pair (.int .i64) .bool)))))))) (.pair (.pair (.int .i64) (.pair (.int .i64) (.pair (.int .i64) (.pair (.pair (.int .i64) (.int .i64)) (.pair (.int .i64) (.pair (.sl (.pair (.int .i64) (.pair .str (.int .i64)))) (.pair .str (.pair (.int .i64) .bool)))))))) (.pair .str (.pair (.int .i64) .bool)))))] })] }
  | _ => none
set_option maxRecDepth 100000 in
theorem run15 : ∀ x, gives F15 L15 f15 S15 x = (fun x => bitextlaw30_steps x) x := by
  intro x
  kernel_rfl
theorem fn15 : FnCalls prog 15 (S15.F (fun x => bitextlaw30_steps x)) := fn_sig (F := F15) (tbl := L15) func15 (by kernel_rfl) mix (cok_list (l := [(14, C14), (17, C17), (16, C16), (18, C18), (27, C27), (29, C29)]) (tabsT rfl rfl) rfl (List.forall_mem_cons.2 ⟨G14, List.forall_mem_cons.2 ⟨G17, List.forall_mem_cons.2 ⟨G16, List.forall_mem_cons.2 ⟨G18, List.forall_mem_cons.2 ⟨G27, List.forall_mem_cons.2 ⟨G29, by simp⟩⟩⟩⟩⟩⟩)) (by kernel_rfl) (by kernel_rfl) (by decide) (fun _ => by kernel_rfl) run15
def C15 : Con := S15.con (by kernel_rfl) (fun x => bitextlaw30_steps x)
theorem G15 : Good1 prog (15, C15) := good_of func15 (by kernel_rfl) (by kernel_rfl) fn15
end Go.Proofs.Ytdgpppkmlmbjoaa.ve
/- bitext/history.Redo -/
namespace Go.Proofs.Ytdgpppkmlmbjoaa.ve
open Go Go.Vs Go.Ve Go.Fn Go.Proofs.Try
set_option linter.unusedVariables false
def F28 : VFE := { cfg := { N := 41, T := T, R := R, con := fun _ f => lkF f [(38, C38), (39, C39), (37, C37)], var := [0, 1, 2, 3, 4, 6, 7, 8], res := [4, 6], eqs := EQ }, keys := [0, 1, 4, 5, 6, 7, 8, 16, 26], bkeys := [.loc 5] }
def S28 : Sig := { args := [.one (.n .data (.pair (.pair (.int .i64) (.pair (.int .i64) (.pair (.int .i64) (.pair (.pair (.int .i64) (.int .i64)) (.pair (.int .i64) (.pair (.sl (.pair (.int .i64) (.pair .str (.int .i64)))) (.pair .str (.pair (.int .i64) .bool)))))))) (.pair (.pair (.int .i64) (.pair (.int .i64) (.pair (.int .i64) (.pair (.pair (.int .i64) (.int .i64)) (.pair (.int .i64) (.pair (.sl (.pair (.int .i64) (.pair .str (.int .i64)))) (.pair .str (.pair (.int .i64) .bool)))))))) (.pair .str (.pair (.int .i64) .bool))))), .one (.i .i64)], boxes := [], res := [.one (.n .own (.pair (.pair (.int .i64) (.pair (.int .i64) (.pair (.int .i64) (.pair (.pair (.int .i64) (.int .i64)) (.pair (.int .i64) (.pair (.sl (.pair (.int .i64) (.pair .str (.int .i64)))) (.pair .str (.pair (.int .i64) .bool)))))))) (.pair (.pair (.int .i64) (.pair (.int .i64) (.pair (.int .i64) (.pair (.pair (.int .i64) (.int .i64)) (.pair (.int .i64) (.pair (.sl (.pair (.int .i64) (.pair .str (.int .i64)))) (.pair .str (.pair (.int .i64) .bool)))))))) (.pair .str (.pair (.int .i64) .bool))))), .row (.pair (.int .i64) (.pair (.int .i64) (.pair (.int .i64) (.pair (.pair (.int .i64) (.int .i64)) (.pair (.int .i64) (.pair (.sl (.pair (.int .i64) (.pair .str (.int .i64)))) (.pair .str (.pair (.int .i64) .bool)))))))), .one (.i .i64)], rbox := [], frz := [] }
def L28 : Nat → Option LoopRec := fun n => match n with
  | 0 => some { head := { live := [0, 1, 5, 7], lbox := [(.loc 5)], vs := [.slot 7 (.i .i64)] }, exits := [(.ret, { live := [4, 5, 6], lbox := [(.loc 5)], vs := [.slot 4 (.l .own (.pair (.pair (.int .i64) (.pair (.int .i64) (.pair (.int .i64) (.pair (.pair (.int .i64) (.int .i64)) (.pair (.int .i64) (.pair (.sl (.pair (.int .i64) (.pair .str (.int .i64)))) (.pair .str (.pair (.int .i64) .bool)))))))) (.pair (.pair (.int .i64) (.pair (.int .i64) (.pair (.int .i64) (.pair (.pair (.int .i64) (.int .i64)) (.pair (.int .i64) (.pair (.sl (.pair (.int .i64) (.pair .str (.int .i64)))) (.pair .str (.pair (.int .i64) .bool)))))))) (.pair .str (.pair (.int .i64) .bool))))), .slot 6 (.i .i64), .cell (.loc 5) 0 (.i .i64), .cell (.loc 5) 1 (.i .i64), .cell (.loc 5) 2 (.i .i64), .cell (.loc 5) 3 (.i .i64), .cell (.loc 5) 4 (.i .i64), .cell (.loc 5) 5 (.i .i64), .cell (.loc 5) 6 (.n .data (.pair (.int .i64) (.pair .str (.int .i64)))), .cell (.loc 5) 7 .s, .cell (.loc 5) 8 (.i .i64), .cell (.loc 5) 9 .b] }), (.exit 0, { live := [5], lbox := [(.loc 5)], vs := [] })] }
  | _ => none
set_option maxRecDepth 100000 in
theorem run28 : ∀ x, gives F28 L28 f28 S28 x = (fun x => history_Redo x.1 x.2) x := by
  intro x
  kernel_rfl
theorem fn28 : FnCalls prog 28 (S28.F (fun x => history_Redo x.1 x.2)) := fn_sig (F := F28) (tbl := L28) func28 (by kernel_rfl) mix (cok_list (l := [(38, C38), (39, C39), (37, C37)]) (tabsT rfl rfl) rfl (List.forall_mem_cons.2 ⟨G38, List.forall_mem_cons.2 ⟨G39, List.forall_mem_cons.2 ⟨G37, by simp⟩⟩⟩)) (by kernel_rfl) (by kernel_rfl) (by decide) (fun _ => by kernel_rfl) run28
def C28 : Con := S28.con (by kernel_rfl) (fun x => history_Redo x.1 x.2)
theorem G28 : Good1 prog (28, C28) := good_of func28 (by kernel_rfl) (by kernel_rfl) fn28
end Go.Proofs.Ytdgpppkmlmbjoaa.ve
/- bitext/bitextref28.SameSteps -/
namespace Go.Proofs.Ytdgpppkmlmbjoaa.ve
open Go Go.Vs Go.Ve Go.Fn Go.Proofs.Try
set_option linter.unusedVariables false
def F19 : VFE := { cfg := { N := 82, T := T, R := R, con := fun _ f => lkF f [(23, C23)], var := [0, 1, 2, 3, 4, 5], res := [4], eqs := EQ }, keys := [0, 1, 4, 5, 10, 12, 13, 14, 80], bkeys := [] }
def S19 : Sig := { args := [.one (.n .data (.pair (.pair (.int .i64) (.pair (.int .i64) (.pair (.int .i64) (.pair (.pair (.int .i64) (.int .i64)) (.pair (.int .i64) (.pair (.sl (.pair (.int .i64) (.pair .str (.int .i64)))) (.pair .str (.pair (.int .i64) .bool)))))))) (.pair (.pair (.int .i64) (.pair (.int .i64) (.pair (.int .i64) (.pair (.pair (.int .i64) (.int .i64)) (.pair (.int .i64) (.pair (.sl (.pair (.int .i64) (.pair .str (.int .i64)))) (.pair .str (.pair (.int .i64) .bool)))))))) (.pair .str (.pair (.int .i64) .bool))))), .one (.n .data (.pair (.pair (.int .i64) (.pair (.int .i64) (.pair (.int .i64) (.pair (.pair (.int .i64) (.int .i64)) (.pair (.int .i64) (.pair (.sl (.pair (.int .i64) (.pair .str (.int .i64)))) (.pair .str (.pair (.int .i64) .bool)))))))) (.pair (.pair (.int .i64) (.pair (.int .i64) (.pair (.int .i64) (.pair (.pair (.int .i64) (.int .i64)) (.pair (.int .i64) (.pair (.sl (.pair (.int .i64) (.pair .str (.int .i64)))) (.pair .str (.pair (.int .i64) .bool)))))))) (.pair .str (.pair (.int .i64) .bool)))))], boxes := [], res := [.one .b], rbox := [], frz := [] }
def L19 : Nat → Option LoopRec := fun n => match n with
  | 0 => some { head := { live := [0, 1, 12, 13], lbox := [], vs := [.slot 13 (.i .i64)] }, exits := [(.ret, { live := [4], lbox := [], vs := [.slot 4 .b] }), (.exit 0, { live := [], lbox := [], vs := [] })] }
  | _ => none
set_option maxRecDepth 100000 in
theorem run19 : ∀ x, gives F19 L19 f19 S19 x = (fun x => bitextref28_SameSteps x.1 x.2) x := by
  intro x
  kernel_rfl
theorem fn19 : FnCalls prog 19 (S19.F (fun x => bitextref28_SameSteps x.1 x.2)) := fn_sig (F := F19) (tbl := L19) func19 (by kernel_rfl) mix (cok_list (l := [(23, C23)]) (tabsT rfl rfl) rfl (List.forall_mem_cons.2 ⟨G23, by simp⟩)) (by kernel_rfl) (by kernel_rfl) (by decide) (fun _ => by kernel_rfl) run19
def C19 : Con := S19.con (by kernel_rfl) (fun x => bitextref28_SameSteps x.1 x.2)
theorem G19 : Good1 prog (19, C19) := good_of func19 (by kernel_rfl) (by kernel_rfl) fn19
end Go.Proofs.Ytdgpppkmlmbjoaa.ve
/- bitext/bitextlaw30.lastStep -/
namespace Go.Proofs.Ytdgpppkmlmbjoaa.ve
open Go Go.Vs Go.Ve Go.Fn Go.Proofs.Try
set_option linter.unusedVariables false
def F30 : VFE := { cfg := { N := 19, T := T, R := R, con := fun _ f => lkF f [(20, C20)], var := [0, 1, 2, 3, 5], res := [], eqs := EQ }, keys := [0, 1, 4, 5, 11], bkeys := [.loc 4] }
def S30 : Sig := { args := [.one (.n .data (.pair (.pair (.int .i64) (.pair (.int .i64) (.pair (.int .i64) (.pair (.pair (.int .i64) (.int .i64)) (.pair (.int .i64) (.pair (.sl (.pair (.int .i64) (.pair .str (.int .i64)))) (.pair .str (.pair (.int .i64) .bool)))))))) (.pair (.pair (.int .i64) (.pair (.int .i64) (.pair (.int .i64) (.pair (.pair (.int .i64) (.int .i64)) (.pair (.int .i64) (.pair (.sl (.pair (.int .i64) (.pair .str (.int .i64)))) (.pair .str (.pair (.int .i64) .bool)))))))) (.pair .str (.pair (.int .i64) .bool))))), .one (.i .i64)], boxes := [], res := [.row (.pair (.pair (.int .i64) (.pair (.int .i64) (.pair (.int .i64) (.pair (.pair (.int .i64) (.int .i64)) (.pair (.int .i64) (.pair (.sl (.pair (.int .i64) (.pair .str (.int .i64)))) (.pair .str (.pair (.int .i64) .bool)))))))) (.pair (.pair (.int .i64) (.pair (.int .i64) (.pair (.int .i64) (.pair (.pair (.int .i64) (.int .i64)) (.pair (.int .i64) (.pair (.sl (.pair (.int .i64) (.pair .str (.int .i64)))) (.pair .str (.pair (.int .i64) .bool)))))))) (.pair .str (.pair (.int .i64) .bool))))], rbox := [], frz := [] }
def L30 : Nat → Option LoopRec := fun _ => none
set_option maxRecDepth 100000 in
theorem run30 : ∀ x, gives F30 L30 f30 S30 x = (fun x => bitextlaw30_lastStep x.1 x.2) x := by
  intro x
  kernel_rfl
theorem fn30 : FnCalls prog 30 (S30.F (fun x => bitextlaw30_lastStep x.1 x.2)) := fn_sig (F := F30) (tbl := L30) func30 (by kernel_rfl) mix (cok_list (l := [(20, C20)]) (tabsT rfl rfl) rfl (List.forall_mem_cons.2 ⟨G20, by simp⟩)) (by kernel_rfl) (by kernel_rfl) (by decide) (fun _ => by kernel_rfl) run30
def C30 : Con := S30.con (by kernel_rfl) (fun x => bitextlaw30_lastStep x.1 x.2)
theorem G30 : Good1 prog (30, C30) := good_of func30 (by kernel_rfl) (by kernel_rfl) fn30
end Go.Proofs.Ytdgpppkmlmbjoaa.ve
/- bitext/bitextlaw30.HistoryInverts -/
namespace Go.Proofs.Ytdgpppkmlmbjoaa.ve
open Go Go.Vs Go.Ve Go.Fn Go.Proofs.Try
set_option linter.unusedVariables false
def F7 : VFE := { cfg := { N := 129, T := T, R := R, con := fun _ f => lkF f [(12, C12), (11, C11), (15, C15), (9, C9), (26, C26), (28, C28), (20, C20), (19, C19), (23, C23), (30, C30)], var := [0, 1, 4, 5, 6, 7, 9, 10, 12, 13, 14, 16, 17, 19], res := [4], eqs := EQ, dat := [4, 5, 6, 7, 9, 10, 12, 13, 14, 16, 17, 19] }, keys := [0, 1, 4, 5, 6, 7, 8, 9, 10, 11, 12, 13, 14, 15, 16, 17, 18, 19, 22, 37, 84, 103, 127], bkeys := [.loc 8, .loc 11, .loc 15, .loc 18] }
def S7 : Sig := { args := [.one (.n .data (.int .i64)), .one (.i .i64)], boxes := [], res := [.one .b], rbox := [], frz := [] }
def L7 : Nat → Option LoopRec := fun _ => none
set_option maxRecDepth 100000 in
theorem run7 : ∀ x, gives F7 L7 f7 S7 x = (fun x => bitextlaw30_HistoryInverts x.1 x.2) x := by
  intro x
  kernel_rfl
theorem fn7 : FnCalls prog 7 (S7.F (fun x => bitextlaw30_HistoryInverts x.1 x.2)) := fn_sig (F := F7) (tbl := L7) func7 (by kernel_rfl) mix (cok_list (l := [(12, C12), (11, C11), (15, C15), (9, C9), (26, C26), (28, C28), (20, C20), (19, C19), (23, C23), (30, C30)]) (tabsT rfl rfl) rfl (List.forall_mem_cons.2 ⟨G12, List.forall_mem_cons.2 ⟨G11, List.forall_mem_cons.2 ⟨G15, List.forall_mem_cons.2 ⟨G9, List.forall_mem_cons.2 ⟨G26, List.forall_mem_cons.2 ⟨G28, List.forall_mem_cons.2 ⟨G20, List.forall_mem_cons.2 ⟨G19, List.forall_mem_cons.2 ⟨G23, List.forall_mem_cons.2 ⟨G30, by simp⟩⟩⟩⟩⟩⟩⟩⟩⟩⟩)) (by kernel_rfl) (by kernel_rfl) (by decide) (fun _ => by kernel_rfl) run7
def C7 : Con := S7.con (by kernel_rfl) (fun x => bitextlaw30_HistoryInverts x.1 x.2)
theorem G7 : Good1 prog (7, C7) := good_of func7 (by kernel_rfl) (by kernel_rfl) fn7
end Go.Proofs.Ytdgpppkmlmbjoaa.ve
/- The law HistoryInverts holds. -/
namespace Go.Proofs.Ytdgpppkmlmbjoaa.historyInverts
open Go Go.ChangeShapes Go.WideShapes Go.ChangeAt Go.RowKit Go.Vs Go.Ve Go.Fn Go.Proofs.Ytdgpppkmlmbjoaa.ve
set_option linter.unusedVariables false
theorem own : ownKnob Try.prog.godebug = none := by kernel_rfl
def B (H : Type) : Bulk H where
  one := Rows.uptoBulk
  all := Rows.uptoBulkAll
  str := fun _ => by simp only [Rows.uptoBulk]
  slice := fun _ _ => by simp only [Rows.uptoBulk]
  agg := fun _ => by simp only [Rows.uptoBulk]
  pos := fun d => by
    cases d with
    | lit l => cases l <;> simp only [Rows.uptoBulk] <;> omega
    | _ => simp only [Rows.uptoBulk] <;> omega
  nil := by simp only [Rows.uptoBulkAll]
  cons := fun _ _ => by simp only [Rows.uptoBulkAll]
theorem contract (H : Type) (enc : TypeId × Value → H) (W : World) (base : Nat) (args : Array Value) (ds gs : List (DataW H)) (before : List MemPlace)
    (hval : ∀ (j : Nat) t v, Try.f7.params[j]? = some t → args[j]? = some v → Value.okWide Try.prog W .any base t v)
    (hW : DataW.Whole enc Try.prog Try.f7.params.toList Rows.historyInvertsSpec.vars false W args.toList ds gs before) (hk : Rows.uptoSmall H (ds ++ gs) = true) :
    Calls Try.prog 7 args W fun e W' => ∃ v, e = .returned v ∧ Rows.historyInvertsSpec.post enc Try.prog Try.f7 false true false false W args v W' :=
  law_typed (cfg := F7.cfg.c) (l := S7.args) (n := 20) (m := 1048576) (ts := Try.f7.params.toList) (sp := Rows.historyInvertsSpec) (by kernel_rfl) fn7 (tabsT rfl rfl) rfl rfl (tb := 4) (by kernel_rfl) (by kernel_rfl)
    (by kernel_rfl) (by
      intro t ht
      exact List.all_eq_true.1 (by kernel_rfl : Try.f7.params.toList.all (fun t => plainT F7.cfg.c 20 t) = true) t ht) (by kernel_rfl)
    (by
      intro t ht
      have := List.all_eq_true.1 (by kernel_rfl : Try.f7.params.toList.all (fun t => Try.prog.readableRec t && Nat.blt t Try.prog.types.size) = true) t ht
      rw [Bool.and_eq_true, Nat.blt_eq] at this
      exact this) (B H) (Nat.le_trans (bulk_append (B H) ds gs) (of_decide_eq_true hk))
    (fun x hw hb => ⟨x, rfl, inverts_holds (Wf_ints hw.1) hw.2.1⟩)
    (fun ds h => by
      match ds, h with
      | [d1, d2], _ => rfl)
    hval hW
set_option maxRecDepth 100000 in
theorem lifted (os : Os) (started : os.Started) (H : Type) (enc : TypeId × Value → H) (F : Stop.Interp) :
    ReturnsInHanded {} Try.checked os 7 .any ((Rows.OpenSpec.upto Rows.historyInvertsSpec).pre6 enc Try.prog Try.f7 Rows.historyInvertsUptoRow.domain false) (((Rows.OpenSpec.upto Rows.historyInvertsSpec).at F).post enc Try.prog Try.f7 false true false false) := by
  refine returnsInHanded_of_cond (C := Try.checked) (s := Rows.OpenSpec.upto Rows.historyInvertsSpec) (k := Rows.uptoSmall) rfl own started (by kernel_rfl) Try.func7
    (OpenSpec.witness (enc := enc) (C := Try.checked) (s := Rows.OpenSpec.upto Rows.historyInvertsSpec) (k := Rows.uptoSmall) rfl false ⟨#[], #[.slice none 0 0, .int .i64 0], []⟩ 8 (by kernel_rfl) (by kernel_rfl) (by kernel_rfl)
      (x := ([.nil, .lit (.int .i64 0)], [], [])) (by kernel_rfl) rfl (by kernel_rfl)) ?_
  intro W base args ds gs before hval hW _ hk _
  exact contract H enc W base args ds gs before hval hW hk
theorem over : Rows.historyInvertsUptoRow.holds Try.pinned (Rows.OpenSpec.upto Rows.historyInvertsSpec) :=
  OpenClaim.holds_of_cond 7 Try.f7 rfl rfl rfl rfl rfl rfl rfl ⟨rfl, rfl, rfl, rfl, rfl⟩ rfl rfl rfl rfl rfl (by kernel_rfl) Try.func7 (by kernel_rfl)
    (of_decide_eq_true (by kernel_rfl)) (by unfold Func.isWrapper; first | (rw [if_pos (by decide +kernel)]; kernel_rfl) | (rw [if_neg (by decide +kernel)]; exact ⟨rfl, rfl⟩))
    (fun os started H enc _ F => lifted os started H enc F)
theorem proved : Rows.HistoryInvertsUptoSaid :=
  over
end Go.Proofs.Ytdgpppkmlmbjoaa.historyInverts
#print axioms Go.Proofs.Ytdgpppkmlmbjoaa.historyInverts.proved
