/- The statement CommentLimitsUptoSaid of the given program is proved here: for every input whose bulk is at most the bound of its row, the law returns true and changes nothing. Part 6 of 6. -/
import Derived.Test.YtppebjihnbbidaaChecked
import Derived.KernelRfl
import Derived.Test.YtppebjihnbbidaaRows
import Derived.JoinedCond
import Derived.Test.YtppebjihnbbidaaV5
/- The seat's types. -/
namespace Go.Proofs.Ytppebjihnbbidaa.ve
open Go Go.Vs Go.Ve Go.Fn Go.Proofs.Try
def T : List (TypeId × TI) := [(3, ⟨1, 8, .int .i64, (some [.int .i64 0])⟩),
  (4, ⟨1, 1, .bool, (some [.bool false])⟩),
  (5, ⟨1, 1, .int .u8, (some [.int .u8 0])⟩),
  (9, ⟨1, 16, .str, (some [.str []])⟩),
  (22, ⟨1, 24, .slice 25, (some [.nil])⟩),
  (23, ⟨1, 24, .slice 3, (some [.nil])⟩),
  (25, ⟨7, 72, .struct [(0, 3), (1, 3), (2, 3), (3, 9), (4, 9), (5, 3), (6, 4)], (some [.int .i64 0, .int .i64 0, .int .i64 0, .str [], .str [], .int .i64 0, .bool false])⟩),
  (31, ⟨1, 8, .int .i64, (some [.int .i64 0])⟩),
  (34, ⟨1, 24, .slice 22, (some [.nil])⟩),
  (35, ⟨3, 24, .array 3 3, (some [.int .i64 0, .int .i64 0, .int .i64 0])⟩),
  (36, ⟨1, 24, .slice 35, (some [.nil])⟩),
  (37, ⟨2, 32, .array 2 9, (some [.str [], .str []])⟩),
  (38, ⟨1, 24, .slice 37, (some [.nil])⟩),
  (43, ⟨1, 24, .slice 5, (some [.nil])⟩),
  (52, ⟨1, 24, .slice 23, (some [.nil])⟩),
  (53, ⟨1, 8, .ptr 61, (some [.nul .ptr])⟩),
  (61, ⟨2, 32, .struct [(0, 23), (1, 3)], (some [.nil, .int .i64 0])⟩),
  (62, ⟨1, 24, .slice 9, (some [.nil])⟩)]
def R : List (TypeId × Ty) := [(3, (.int .i64)),
  (4, .bool),
  (5, (.int .u8)),
  (9, .str),
  (22, (.sl (.pair (.int .i64) (.pair (.int .i64) (.pair (.int .i64) (.pair .str (.pair .str (.pair (.int .i64) .bool)))))))),
  (23, (.sl (.int .i64))),
  (25, (.pair (.int .i64) (.pair (.int .i64) (.pair (.int .i64) (.pair .str (.pair .str (.pair (.int .i64) .bool))))))),
  (31, (.int .i64)),
  (34, (.sl (.sl (.pair (.int .i64) (.pair (.int .i64) (.pair (.int .i64) (.pair .str (.pair .str (.pair (.int .i64) .bool))))))))),
  (35, (.pair (.int .i64) (.pair (.int .i64) (.int .i64)))),
  (36, (.sl (.pair (.int .i64) (.pair (.int .i64) (.int .i64))))),
  (37, (.pair .str .str)),
  (38, (.sl (.pair .str .str))),
  (43, (.sl (.int .u8))),
  (52, (.sl (.sl (.int .i64)))),
  (61, (.pair (.sl (.int .i64)) (.int .i64))),
  (62, (.sl .str))]
def AllP {α : Type} (p : α → Prop) : List α → Prop
  | [] => True
  | a :: r => p a ∧ AllP p r
theorem AllP.mem {α : Type} {p : α → Prop} : ∀ {l : List α}, AllP p l → ∀ x ∈ l, p x
  | _ :: _, h, _, .head _ => h.1
  | _ :: _, h, _, .tail _ hx => AllP.mem h.2 _ hx
theorem T_ok : AllP (fun x => tiOf prog x.1 = some x.2) T := ⟨by show tiOf prog _ = some _; kernel_rfl, by show tiOf prog _ = some _; kernel_rfl, by show tiOf prog _ = some _; kernel_rfl, by show tiOf prog _ = some _; kernel_rfl, by show tiOf prog _ = some _; kernel_rfl, by show tiOf prog _ = some _; kernel_rfl, by show tiOf prog _ = some _; kernel_rfl, by show tiOf prog _ = some _; kernel_rfl, by show tiOf prog _ = some _; kernel_rfl, by show tiOf prog _ = some _; kernel_rfl, by show tiOf prog _ = some _; kernel_rfl, by show tiOf prog _ = some _; kernel_rfl, by show tiOf prog _ = some _; kernel_rfl, by show tiOf prog _ = some _; kernel_rfl, by show tiOf prog _ = some _; kernel_rfl, by show tiOf prog _ = some _; kernel_rfl, by show tiOf prog _ = some _; kernel_rfl, by show tiOf prog _ = some _; kernel_rfl, trivial⟩
theorem lk_mem {α : Type} {t : Nat} {v : α} : ∀ {l : List (Nat × α)}, lk t l = some v → (t, v) ∈ l
  | (u, w) :: l, h => by
    unfold lk at h
    split at h
    · rename_i e; cases h; subst e; simp
    · exact List.mem_cons_of_mem _ (lk_mem h)
def EQ : List (TypeId × List Sc) := [(25, [.int .i64, .int .i64, .int .i64, .str, .str, .int .i64, .bool])]
theorem EQ_ok : AllP (fun x => EqOk prog x.1 x.2) EQ := ⟨eqOk_flat (by kernel_rfl) (by kernel_rfl) (by kernel_rfl) (by kernel_rfl), trivial⟩
theorem tabsT {cfg : Cfg} (h : cfg.T = T) (he : (cfg.eqs == [] || cfg.eqs == EQ) = true) : Tabs prog cfg :=
  ⟨fun t i hi => AllP.mem T_ok (t, i) (lk_mem (by rw [← h]; exact hi)), fun t sh ht => by
    rw [Bool.or_eq_true, beq_iff_eq, beq_iff_eq] at he
    rcases he with he | he
    · rw [he] at ht; cases ht
    · rw [he] at ht; exact AllP.mem EQ_ok (t, sh) (lk_mem ht)⟩
theorem mix : prog.follows .mixedOrders = true := by kernel_rfl
end Go.Proofs.Ytppebjihnbbidaa.ve
/- bitext/bitextmake.Place -/
namespace Go.Proofs.Ytppebjihnbbidaa.ve
open Go Go.Vs Go.Ve Go.Fn Go.Proofs.Try
set_option linter.unusedVariables false
def F13 : VFE := { cfg := { N := 14, T := T, R := R, con := fun _ f => lkF f [], var := [0, 1, 2, 3, 4], res := [4], eqs := EQ }, keys := [0, 1, 4, 9], bkeys := [] }
def S13 : Sig := { args := [.one (.i .i64), .one (.i .i64)], boxes := [], res := [.one (.i .i64)], rbox := [], frz := [] }
def L13 : Nat → Option LoopRec := fun _ => none
set_option maxRecDepth 100000 in
theorem run13 : ∀ x, gives F13 L13 f13 S13 x = (fun x => bitextmake_Place x.1 x.2) x := by
  intro x
  kernel_rfl
theorem fn13 : FnCalls prog 13 (S13.F (fun x => bitextmake_Place x.1 x.2)) := fn_sig (F := F13) (tbl := L13) func13 (by kernel_rfl) mix (cok_list (l := []) (tabsT rfl rfl) rfl (by simp)) (by kernel_rfl) (by kernel_rfl) (by decide) (fun _ => by kernel_rfl) run13
def C13 : Con := S13.con (by kernel_rfl) (fun x => bitextmake_Place x.1 x.2)
theorem G13 : Good1 prog (13, C13) := good_of func13 (by kernel_rfl) (by kernel_rfl) fn13
end Go.Proofs.Ytppebjihnbbidaa.ve
/- bitext/comment.written -/
namespace Go.Proofs.Ytppebjihnbbidaa.ve
open Go Go.Vs Go.Ve Go.Fn Go.Proofs.Try
set_option linter.unusedVariables false
def F32 : VFE := { cfg := { N := 27, T := T, R := R, con := fun _ f => lkF f [], var := [0, 1, 2, 3], res := [2], eqs := EQ }, keys := [0, 2, 3, 5, 6, 7, 18], bkeys := [] }
def S32 : Sig := { args := [.one .s], boxes := [], res := [.one .b], rbox := [], frz := [] }
def L32 : Nat → Option LoopRec := fun n => match n with
  | 0 => some { head := { live := [0, 5, 6], lbox := [], vs := [.slot 6 (.i .i64)] }, exits := [(.ret, { live := [2], lbox := [], vs := [.slot 2 .b] }), (.exit 0, { live := [0], lbox := [], vs := [] })] }
  | _ => none
set_option maxRecDepth 100000 in
theorem run32 : ∀ x, gives F32 L32 f32 S32 x = (fun x => comment_written x) x := by
  intro x
  kernel_rfl
theorem fn32 : FnCalls prog 32 (S32.F (fun x => comment_written x)) := fn_sig (F := F32) (tbl := L32) func32 (by kernel_rfl) mix (cok_list (l := []) (tabsT rfl rfl) rfl (by simp)) (by kernel_rfl) (by kernel_rfl) (by decide) (fun _ => by kernel_rfl) run32
def C32 : Con := S32.con (by kernel_rfl) (fun x => comment_written x)
theorem G32 : Good1 prog (32, C32) := good_of func32 (by kernel_rfl) (by kernel_rfl) fn32
end Go.Proofs.Ytppebjihnbbidaa.ve
/- bitext/class.IsName -/
namespace Go.Proofs.Ytppebjihnbbidaa.ve
open Go Go.Vs Go.Ve Go.Fn Go.Proofs.Try
set_option linter.unusedVariables false
def F33 : VFE := { cfg := { N := 51, T := T, R := R, con := fun _ f => lkF f [], var := [0, 1, 2, 3, 4], res := [2], eqs := EQ }, keys := [0, 2, 3, 4, 22, 26, 50], bkeys := [] }
def S33 : Sig := { args := [.one .s], boxes := [], res := [.one .b], rbox := [], frz := [] }
def L33 : Nat → Option LoopRec := fun n => match n with
  | 0 => some { head := { live := [0, 3], lbox := [], vs := [.slot 3 (.i .i64)] }, exits := [(.ret, { live := [2], lbox := [], vs := [.slot 2 .b] }), (.exit 0, { live := [], lbox := [], vs := [] })] }
  | _ => none
set_option maxRecDepth 100000 in
theorem run33 : ∀ x, gives F33 L33 f33 S33 x = (fun x => class_IsName x) x := by
  intro x
  kernel_rfl
theorem fn33 : FnCalls prog 33 (S33.F (fun x => class_IsName x)) := fn_sig (F := F33) (tbl := L33) func33 (by kernel_rfl) mix (cok_list (l := []) (tabsT rfl rfl) rfl (by simp)) (by kernel_rfl) (by kernel_rfl) (by decide) (fun _ => by kernel_rfl) run33
def C33 : Con := S33.con (by kernel_rfl) (fun x => class_IsName x)
theorem G33 : Good1 prog (33, C33) := good_of func33 (by kernel_rfl) (by kernel_rfl) fn33
end Go.Proofs.Ytppebjihnbbidaa.ve
/- bitext/comment.Validate -/
namespace Go.Proofs.Ytppebjihnbbidaa.ve
open Go Go.Vs Go.Ve Go.Fn Go.Proofs.Try
set_option linter.unusedVariables false
def F14o0 : VFE := { cfg := { N := 81, T := T, R := R, con := fun _ f => lkF f [(32, C32), (33, C33)], var := [0, 2, 3, 5, 19, 57, 62], res := [2], eqs := EQ }, keys := [0, 2, 3, 4, 5, 8, 9, 10, 11, 12, 19, 57, 62], bkeys := [.loc 4] }
def S14o0 : Sig := { args := [.one (.n .own (.pair (.int .i64) (.pair (.int .i64) (.pair (.int .i64) (.pair .str (.pair .str (.pair (.int .i64) .bool)))))))], boxes := [], res := [.one (.i .i64)], rbox := [], frz := [] }
def L14o0 : Nat → Option LoopRec := fun n => match n with
  | 0 => some { head := { live := [0, 9, 10, 11], lbox := [], vs := [.slot 11 (.i .i64)] }, exits := [(.ret, { live := [2], lbox := [], vs := [.slot 2 (.i .i64)] }), (.exit 0, { live := [], lbox := [], vs := [] })] }
  | _ => none
set_option maxRecDepth 100000 in
theorem run14o0 : ∀ x, gives F14o0 L14o0 f14 S14o0 x = (fun x => comment_Validate_o0 x) x := by
  intro x
  kernel_rfl
theorem fn14o0 : FnCalls prog 14 (S14o0.F (fun x => comment_Validate_o0 x)) := fn_sig (F := F14o0) (tbl := L14o0) func14 (by kernel_rfl) mix (cok_list (l := [(32, C32), (33, C33)]) (tabsT rfl rfl) rfl (List.forall_mem_cons.2 ⟨G32, List.forall_mem_cons.2 ⟨G33, by simp⟩⟩)) (by kernel_rfl) (by kernel_rfl) (by decide) (fun _ => by kernel_rfl) run14o0
def C14o0 : Con := S14o0.con (by kernel_rfl) (fun x => comment_Validate_o0 x)
theorem G14o0 : Good1 prog (14, C14o0) := good_of func14 (by kernel_rfl) (by kernel_rfl) fn14o0
end Go.Proofs.Ytppebjihnbbidaa.ve
/- bitext/comment.root -/
namespace Go.Proofs.Ytppebjihnbbidaa.ve
open Go Go.Vs Go.Ve Go.Fn Go.Proofs.Try
set_option linter.unusedVariables false
def F36o0 : VFE := { cfg := { N := 16, T := T, R := R, con := fun _ f => lkF f [], var := [0, 1, 2, 3, 4, 5], res := [4], eqs := EQ }, keys := [0, 1, 4, 5, 13], bkeys := [] }
def S36o0 : Sig := { args := [.one (.n .own (.pair (.int .i64) (.pair (.int .i64) (.pair (.int .i64) (.pair .str (.pair .str (.pair (.int .i64) .bool))))))), .one (.i .i64)], boxes := [], res := [.one (.i .i64)], rbox := [], frz := [] }
def L36o0 : Nat → Option LoopRec := fun n => match n with
  | 0 => some { head := { live := [0, 1], lbox := [], vs := [.slot 1 (.i .i64)] }, exits := [(.ret, { live := [4], lbox := [], vs := [.slot 4 (.i .i64)] })] }
  | _ => none
set_option maxRecDepth 100000 in
theorem run36o0 : ∀ x, gives F36o0 L36o0 f36 S36o0 x = (fun x => comment_root_o0 x.1 x.2) x := by
  intro x
  kernel_rfl
theorem fn36o0 : FnCalls prog 36 (S36o0.F (fun x => comment_root_o0 x.1 x.2)) := fn_sig (F := F36o0) (tbl := L36o0) func36 (by kernel_rfl) mix (cok_list (l := []) (tabsT rfl rfl) rfl (by simp)) (by kernel_rfl) (by kernel_rfl) (by decide) (fun _ => by kernel_rfl) run36o0
def C36o0 : Con := S36o0.con (by kernel_rfl) (fun x => comment_root_o0 x.1 x.2)
theorem G36o0 : Good1 prog (36, C36o0) := good_of func36 (by kernel_rfl) (by kernel_rfl) fn36o0
end Go.Proofs.Ytppebjihnbbidaa.ve
/- slices.Clone[[]bitext/api.Note,bitext/api.Note] -/
namespace Go.Proofs.Ytppebjihnbbidaa.ve
open Go Go.Vs Go.Ve Go.Fn Go.Proofs.Try
set_option linter.unusedVariables false
def F37o0 : VFE := { cfg := { N := 8, T := T, R := R, con := fun _ f => lkF f [], var := [0, 1, 2], res := [2], eqs := EQ }, keys := [0, 2, 4], bkeys := [] }
def S37o0 : Sig := { args := [.one (.n .own (.pair (.int .i64) (.pair (.int .i64) (.pair (.int .i64) (.pair .str (.pair .str (.pair (.int .i64) .bool)))))))], boxes := [], res := [.one (.n .own (.pair (.int .i64) (.pair (.int .i64) (.pair (.int .i64) (.pair .str (.pair .str (.pair (.int .i64) .bool)))))))], rbox := [], frz := [] }
def L37o0 : Nat → Option LoopRec := fun _ => none
set_option maxRecDepth 100000 in
theorem run37o0 : ∀ x, gives F37o0 L37o0 f37 S37o0 x = (fun x => slices_Clone_api_Note_o0 x) x := by
  intro x
  kernel_rfl
theorem fn37o0 : FnCalls prog 37 (S37o0.F (fun x => slices_Clone_api_Note_o0 x)) := fn_sig (F := F37o0) (tbl := L37o0) func37 (by kernel_rfl) mix (cok_list (l := []) (tabsT rfl rfl) rfl (by simp)) (by kernel_rfl) (by kernel_rfl) (by decide) (fun _ => by kernel_rfl) run37o0
def C37o0 : Con := S37o0.con (by kernel_rfl) (fun x => slices_Clone_api_Note_o0 x)
theorem G37o0 : Good1 prog (37, C37o0) := good_of func37 (by kernel_rfl) (by kernel_rfl) fn37o0
end Go.Proofs.Ytppebjihnbbidaa.ve
/- bitext/comment.Add -/
namespace Go.Proofs.Ytppebjihnbbidaa.ve
open Go Go.Vs Go.Ve Go.Fn Go.Proofs.Try
set_option linter.unusedVariables false
def F16o0 : VFE := { cfg := { N := 88, T := T, R := R, con := fun _ f => lkF f [(14, C14o0), (32, C32), (33, C33), (36, C36o0), (37, C37o0)], var := [0, 1, 2, 3, 4, 5, 12, 13, 14, 21, 25, 41, 47, 56, 65], res := [12, 13], eqs := EQ }, keys := [0, 1, 2, 3, 4, 5, 12, 13, 14, 15, 19, 21, 25, 41, 46, 47, 56, 65], bkeys := [.loc 15] }
def S16o0 : Sig := { args := [.one (.n .own (.pair (.int .i64) (.pair (.int .i64) (.pair (.int .i64) (.pair .str (.pair .str (.pair (.int .i64) .bool))))))), .one (.i .i64), .one (.i .i64), .one .s, .one .s, .one (.i .i64)], boxes := [], res := [.one (.n .own (.pair (.int .i64) (.pair (.int .i64) (.pair (.int .i64) (.pair .str (.pair .str (.pair (.int .i64) .bool))))))), .one (.i .i64)], rbox := [], frz := [] }
def L16o0 : Nat → Option LoopRec := fun _ => none
set_option maxRecDepth 100000 in
theorem run16o0 : ∀ x, gives F16o0 L16o0 f16 S16o0 x = (fun x => comment_Add_o0 x.1 x.2.1 x.2.2.1 x.2.2.2.1 x.2.2.2.2.1 x.2.2.2.2.2) x := by
  intro x
  kernel_rfl
theorem fn16o0 : FnCalls prog 16 (S16o0.F (fun x => comment_Add_o0 x.1 x.2.1 x.2.2.1 x.2.2.2.1 x.2.2.2.2.1 x.2.2.2.2.2)) := fn_sig (F := F16o0) (tbl := L16o0) func16 (by kernel_rfl) mix (cok_list (l := [(14, C14o0), (32, C32), (33, C33), (36, C36o0), (37, C37o0)]) (tabsT rfl rfl) rfl (List.forall_mem_cons.2 ⟨G14o0, List.forall_mem_cons.2 ⟨G32, List.forall_mem_cons.2 ⟨G33, List.forall_mem_cons.2 ⟨G36o0, List.forall_mem_cons.2 ⟨G37o0, by simp⟩⟩⟩⟩⟩)) (by kernel_rfl) (by kernel_rfl) (by decide) (fun _ => by kernel_rfl) run16o0
def C16o0 : Con := S16o0.con (by kernel_rfl) (fun x => comment_Add_o0 x.1 x.2.1 x.2.2.1 x.2.2.2.1 x.2.2.2.2.1 x.2.2.2.2.2)
theorem G16o0 : Good1 prog (16, C16o0) := good_of func16 (by kernel_rfl) (by kernel_rfl) fn16o0
end Go.Proofs.Ytppebjihnbbidaa.ve
/- bitext/bitextref28.text -/
namespace Go.Proofs.Ytppebjihnbbidaa.ve
open Go Go.Vs Go.Ve Go.Fn Go.Proofs.Try
set_option linter.unusedVariables false
def F34 : VFE := { cfg := { N := 27, T := T, R := R, con := fun _ f => lkF f [], var := [0, 1, 2, 3], res := [2], eqs := EQ }, keys := [0, 2, 3, 7, 19], bkeys := [] }
def S34 : Sig := { args := [.one .s], boxes := [], res := [.one .b], rbox := [], frz := [] }
def L34 : Nat → Option LoopRec := fun n => match n with
  | 0 => some { head := { live := [0, 3], lbox := [], vs := [.slot 3 (.i .i64)] }, exits := [(.ret, { live := [2], lbox := [], vs := [.slot 2 .b] }), (.exit 0, { live := [0], lbox := [], vs := [] })] }
  | _ => none
set_option maxRecDepth 100000 in
theorem run34 : ∀ x, gives F34 L34 f34 S34 x = (fun x => bitextref28_text x) x := by
  intro x
  kernel_rfl
theorem fn34 : FnCalls prog 34 (S34.F (fun x => bitextref28_text x)) := fn_sig (F := F34) (tbl := L34) func34 (by kernel_rfl) mix (cok_list (l := []) (tabsT rfl rfl) rfl (by simp)) (by kernel_rfl) (by kernel_rfl) (by decide) (fun _ => by kernel_rfl) run34
def C34 : Con := S34.con (by kernel_rfl) (fun x => bitextref28_text x)
theorem G34 : Good1 prog (34, C34) := good_of func34 (by kernel_rfl) (by kernel_rfl) fn34
end Go.Proofs.Ytppebjihnbbidaa.ve
/- bitext/bitextref1.IsName -/
namespace Go.Proofs.Ytppebjihnbbidaa.ve
open Go Go.Vs Go.Ve Go.Fn Go.Proofs.Try
set_option linter.unusedVariables false
def F35 : VFE := { cfg := { N := 44, T := T, R := R, con := fun _ f => lkF f [], var := [0, 1, 2, 3, 4], res := [2], eqs := EQ }, keys := [0, 2, 3, 4, 12, 16, 43], bkeys := [] }
def S35 : Sig := { args := [.one .s], boxes := [], res := [.one .b], rbox := [], frz := [] }
def L35 : Nat → Option LoopRec := fun n => match n with
  | 0 => some { head := { live := [0, 3], lbox := [], vs := [.slot 3 (.i .i64)] }, exits := [(.ret, { live := [2], lbox := [], vs := [.slot 2 .b] }), (.exit 0, { live := [], lbox := [], vs := [] })] }
  | _ => none
set_option maxRecDepth 100000 in
theorem run35 : ∀ x, gives F35 L35 f35 S35 x = (fun x => bitextref1_IsName x) x := by
  intro x
  kernel_rfl
theorem fn35 : FnCalls prog 35 (S35.F (fun x => bitextref1_IsName x)) := fn_sig (F := F35) (tbl := L35) func35 (by kernel_rfl) mix (cok_list (l := []) (tabsT rfl rfl) rfl (by simp)) (by kernel_rfl) (by kernel_rfl) (by decide) (fun _ => by kernel_rfl) run35
def C35 : Con := S35.con (by kernel_rfl) (fun x => bitextref1_IsName x)
theorem G35 : Good1 prog (35, C35) := good_of func35 (by kernel_rfl) (by kernel_rfl) fn35
end Go.Proofs.Ytppebjihnbbidaa.ve
/- bitext/bitextref28.ValidateNotes -/
namespace Go.Proofs.Ytppebjihnbbidaa.ve
open Go Go.Vs Go.Ve Go.Fn Go.Proofs.Try
set_option linter.unusedVariables false
def F15o0 : VFE := { cfg := { N := 77, T := T, R := R, con := fun _ f => lkF f [(34, C34), (35, C35)], var := [0, 2, 3], res := [2], eqs := EQ }, keys := [0, 2, 3, 4, 7, 8, 9, 10, 11, 52, 56, 75], bkeys := [.loc 4] }
def S15o0 : Sig := { args := [.one (.n .own (.pair (.int .i64) (.pair (.int .i64) (.pair (.int .i64) (.pair .str (.pair .str (.pair (.int .i64) .bool)))))))], boxes := [], res := [.one (.i .i64)], rbox := [], frz := [] }
def L15o0 : Nat → Option LoopRec := fun n => match n with
  | 0 => some { head := { live := [0, 8, 9, 10], lbox := [], vs := [.slot 10 (.i .i64)] }, exits := [(.ret, { live := [2], lbox := [], vs := [.slot 2 (.i .i64)] }), (.exit 0, { live := [], lbox := [], vs := [] })] }
  | _ => none
set_option maxRecDepth 100000 in
theorem run15o0 : ∀ x, gives F15o0 L15o0 f15 S15o0 x = (fun x => bitextref28_ValidateNotes_o0 x) x := by
  intro x
  kernel_rfl
theorem fn15o0 : FnCalls prog 15 (S15o0.F (fun x => bitextref28_ValidateNotes_o0 x)) := fn_sig (F := F15o0) (tbl := L15o0) func15 (by kernel_rfl) mix (cok_list (l := [(34, C34), (35, C35)]) (tabsT rfl rfl) rfl (List.forall_mem_cons.2 ⟨G34, List.forall_mem_cons.2 ⟨G35, by simp⟩⟩)) (by kernel_rfl) (by kernel_rfl) (by decide) (fun _ => by kernel_rfl) run15o0
def C15o0 : Con := S15o0.con (by kernel_rfl) (fun x => bitextref28_ValidateNotes_o0 x)
theorem G15o0 : Good1 prog (15, C15o0) := good_of func15 (by kernel_rfl) (by kernel_rfl) fn15o0
end Go.Proofs.Ytppebjihnbbidaa.ve
/- bitext/bitextref28.root -/
namespace Go.Proofs.Ytppebjihnbbidaa.ve
open Go Go.Vs Go.Ve Go.Fn Go.Proofs.Try
set_option linter.unusedVariables false
def F38o0 : VFE := { cfg := { N := 19, T := T, R := R, con := fun _ f => lkF f [], var := [0, 1, 2, 3, 4], res := [4], eqs := EQ }, keys := [0, 1, 4, 11], bkeys := [] }
def S38o0 : Sig := { args := [.one (.n .own (.pair (.int .i64) (.pair (.int .i64) (.pair (.int .i64) (.pair .str (.pair .str (.pair (.int .i64) .bool))))))), .one (.i .i64)], boxes := [], res := [.one (.i .i64)], rbox := [], frz := [] }
def L38o0 : Nat → Option LoopRec := fun n => match n with
  | 0 => some { head := { live := [0, 1], lbox := [], vs := [.slot 1 (.i .i64)] }, exits := [(.exit 0, { live := [1], lbox := [], vs := [.slot 1 (.i .i64)] })] }
  | _ => none
set_option maxRecDepth 100000 in
theorem run38o0 : ∀ x, gives F38o0 L38o0 f38 S38o0 x = (fun x => bitextref28_root_o0 x.1 x.2) x := by
  intro x
  kernel_rfl
theorem fn38o0 : FnCalls prog 38 (S38o0.F (fun x => bitextref28_root_o0 x.1 x.2)) := fn_sig (F := F38o0) (tbl := L38o0) func38 (by kernel_rfl) mix (cok_list (l := []) (tabsT rfl rfl) rfl (by simp)) (by kernel_rfl) (by kernel_rfl) (by decide) (fun _ => by kernel_rfl) run38o0
def C38o0 : Con := S38o0.con (by kernel_rfl) (fun x => bitextref28_root_o0 x.1 x.2)
theorem G38o0 : Good1 prog (38, C38o0) := good_of func38 (by kernel_rfl) (by kernel_rfl) fn38o0
end Go.Proofs.Ytppebjihnbbidaa.ve
/- bitext/bitextref28.AddNote -/
namespace Go.Proofs.Ytppebjihnbbidaa.ve
open Go Go.Vs Go.Ve Go.Fn Go.Proofs.Try
set_option linter.unusedVariables false
def F17o0 : VFE := { cfg := { N := 81, T := T, R := R, con := fun _ f => lkF f [(15, C15o0), (34, C34), (35, C35), (38, C38o0)], var := [0, 1, 2, 3, 4, 5, 12, 13, 14], res := [12, 13], eqs := EQ }, keys := [0, 1, 2, 3, 4, 5, 12, 13, 14, 18, 22, 37, 40, 42, 50, 58, 66], bkeys := [] }
def S17o0 : Sig := { args := [.one (.n .own (.pair (.int .i64) (.pair (.int .i64) (.pair (.int .i64) (.pair .str (.pair .str (.pair (.int .i64) .bool))))))), .one (.i .i64), .one (.i .i64), .one .s, .one .s, .one (.i .i64)], boxes := [], res := [.one (.n .own (.pair (.int .i64) (.pair (.int .i64) (.pair (.int .i64) (.pair .str (.pair .str (.pair (.int .i64) .bool))))))), .one (.i .i64)], rbox := [], frz := [] }
def L17o0 : Nat → Option LoopRec := fun _ => none
set_option maxRecDepth 100000 in
theorem run17o0 : ∀ x, gives F17o0 L17o0 f17 S17o0 x = (fun x => bitextref28_AddNote_o0 x.1 x.2.1 x.2.2.1 x.2.2.2.1 x.2.2.2.2.1 x.2.2.2.2.2) x := by
  intro x
  kernel_rfl
theorem fn17o0 : FnCalls prog 17 (S17o0.F (fun x => bitextref28_AddNote_o0 x.1 x.2.1 x.2.2.1 x.2.2.2.1 x.2.2.2.2.1 x.2.2.2.2.2)) := fn_sig (F := F17o0) (tbl := L17o0) func17 (by kernel_rfl) mix (cok_list (l := [(15, C15o0), (34, C34), (35, C35), (38, C38o0)]) (tabsT rfl rfl) rfl (List.forall_mem_cons.2 ⟨G15o0, List.forall_mem_cons.2 ⟨G34, List.forall_mem_cons.2 ⟨G35, List.forall_mem_cons.2 ⟨G38o0, by simp⟩⟩⟩⟩)) (by kernel_rfl) (by kernel_rfl) (by decide) (fun _ => by kernel_rfl) run17o0
def C17o0 : Con := S17o0.con (by kernel_rfl) (fun x => bitextref28_AddNote_o0 x.1 x.2.1 x.2.2.1 x.2.2.2.1 x.2.2.2.2.1 x.2.2.2.2.2)
theorem G17o0 : Good1 prog (17, C17o0) := good_of func17 (by kernel_rfl) (by kernel_rfl) fn17o0
end Go.Proofs.Ytppebjihnbbidaa.ve
/- bitext/comment.Validate -/
namespace Go.Proofs.Ytppebjihnbbidaa.ve
open Go Go.Vs Go.Ve Go.Fn Go.Proofs.Try
set_option linter.unusedVariables false
def F14 : VFE := { cfg := { N := 81, T := T, R := R, con := fun _ f => lkF f [(32, C32), (33, C33)], var := [0, 2, 3, 5, 19, 57, 62], res := [2], eqs := EQ }, keys := [0, 2, 3, 4, 5, 8, 9, 10, 11, 12, 19, 57, 62], bkeys := [.loc 4] }
def S14 : Sig := { args := [.one (.n .data (.pair (.int .i64) (.pair (.int .i64) (.pair (.int .i64) (.pair .str (.pair .str (.pair (.int .i64) .bool)))))))], boxes := [], res := [.one (.i .i64)], rbox := [], frz := [] }
def L14 : Nat → Option LoopRec := fun n => match n with
  | 0 => some { head := { live := [0, 9, 10, 11], lbox := [], vs := [.slot 11 (.i .i64)] }, exits := [(.ret, { live := [2], lbox := [], vs := [.slot 2 (.i .i64)] }), (.exit 0, { live := [], lbox := [], vs := [] })] }
  | _ => none
set_option maxRecDepth 100000 in
theorem run14 : ∀ x, gives F14 L14 f14 S14 x = (fun x => comment_Validate x) x := by
  intro x
  kernel_rfl
theorem fn14 : FnCalls prog 14 (S14.F (fun x => comment_Validate x)) := fn_sig (F := F14) (tbl := L14) func14 (by kernel_rfl) mix (cok_list (l := [(32, C32), (33, C33)]) (tabsT rfl rfl) rfl (List.forall_mem_cons.2 ⟨G32, List.forall_mem_cons.2 ⟨G33, by simp⟩⟩)) (by kernel_rfl) (by kernel_rfl) (by decide) (fun _ => by kernel_rfl) run14
def C14 : Con := S14.con (by kernel_rfl) (fun x => comment_Validate x)
theorem G14 : Good1 prog (14, C14) := good_of func14 (by kernel_rfl) (by kernel_rfl) fn14
end Go.Proofs.Ytppebjihnbbidaa.ve
/- bitext/comment.root -/
namespace Go.Proofs.Ytppebjihnbbidaa.ve
open Go Go.Vs Go.Ve Go.Fn Go.Proofs.Try
set_option linter.unusedVariables false
def F36 : VFE := { cfg := { N := 16, T := T, R := R, con := fun _ f => lkF f [], var := [0, 1, 2, 3, 4, 5], res := [4], eqs := EQ }, keys := [0, 1, 4, 5, 13], bkeys := [] }
def S36 : Sig := { args := [.one (.n .data (.pair (.int .i64) (.pair (.int .i64) (.pair (.int .i64) (.pair .str (.pair .str (.pair (.int .i64) .bool))))))), .one (.i .i64)], boxes := [], res := [.one (.i .i64)], rbox := [], frz := [] }
def L36 : Nat → Option LoopRec := fun n => match n with
  | 0 => some { head := { live := [0, 1], lbox := [], vs := [.slot 1 (.i .i64)] }, exits := [(.ret, { live := [4], lbox := [], vs := [.slot 4 (.i .i64)] })] }
  | _ => none
set_option maxRecDepth 100000 in
theorem run36 : ∀ x, gives F36 L36 f36 S36 x = (fun x => comment_root x.1 x.2) x := by
  intro x
  kernel_rfl
theorem fn36 : FnCalls prog 36 (S36.F (fun x => comment_root x.1 x.2)) := fn_sig (F := F36) (tbl := L36) func36 (by kernel_rfl) mix (cok_list (l := []) (tabsT rfl rfl) rfl (by simp)) (by kernel_rfl) (by kernel_rfl) (by decide) (fun _ => by kernel_rfl) run36
def C36 : Con := S36.con (by kernel_rfl) (fun x => comment_root x.1 x.2)
theorem G36 : Good1 prog (36, C36) := good_of func36 (by kernel_rfl) (by kernel_rfl) fn36
end Go.Proofs.Ytppebjihnbbidaa.ve
/- slices.Clone[[]bitext/api.Note,bitext/api.Note] -/
namespace Go.Proofs.Ytppebjihnbbidaa.ve
open Go Go.Vs Go.Ve Go.Fn Go.Proofs.Try
set_option linter.unusedVariables false
def F37 : VFE := { cfg := { N := 8, T := T, R := R, con := fun _ f => lkF f [], var := [0, 1, 2], res := [2], eqs := EQ }, keys := [0, 2, 4], bkeys := [] }
def S37 : Sig := { args := [.one (.n .data (.pair (.int .i64) (.pair (.int .i64) (.pair (.int .i64) (.pair .str (.pair .str (.pair (.int .i64) .bool)))))))], boxes := [], res := [.one (.n .own (.pair (.int .i64) (.pair (.int .i64) (.pair (.int .i64) (.pair .str (.pair .str (.pair (.int .i64) .bool)))))))], rbox := [], frz := [] }
def L37 : Nat → Option LoopRec := fun _ => none
set_option maxRecDepth 100000 in
theorem run37 : ∀ x, gives F37 L37 f37 S37 x = (fun x => slices_Clone_api_Note x) x := by
  intro x
  kernel_rfl
theorem fn37 : FnCalls prog 37 (S37.F (fun x => slices_Clone_api_Note x)) := fn_sig (F := F37) (tbl := L37) func37 (by kernel_rfl) mix (cok_list (l := []) (tabsT rfl rfl) rfl (by simp)) (by kernel_rfl) (by kernel_rfl) (by decide) (fun _ => by kernel_rfl) run37
def C37 : Con := S37.con (by kernel_rfl) (fun x => slices_Clone_api_Note x)
theorem G37 : Good1 prog (37, C37) := good_of func37 (by kernel_rfl) (by kernel_rfl) fn37
end Go.Proofs.Ytppebjihnbbidaa.ve
/- bitext/comment.Add -/
namespace Go.Proofs.Ytppebjihnbbidaa.ve
open Go Go.Vs Go.Ve Go.Fn Go.Proofs.Try
set_option linter.unusedVariables false
def F16 : VFE := { cfg := { N := 88, T := T, R := R, con := fun _ f => lkF f [(14, C14), (32, C32), (33, C33), (36, C36), (37, C37)], var := [0, 1, 2, 3, 4, 5, 12, 13, 14, 21, 25, 41, 47, 56, 65], res := [12, 13], eqs := EQ }, keys := [0, 1, 2, 3, 4, 5, 12, 13, 14, 15, 19, 21, 25, 41, 46, 47, 56, 65], bkeys := [.loc 15] }
def S16 : Sig := { args := [.one (.n .data (.pair (.int .i64) (.pair (.int .i64) (.pair (.int .i64) (.pair .str (.pair .str (.pair (.int .i64) .bool))))))), .one (.i .i64), .one (.i .i64), .one .s, .one .s, .one (.i .i64)], boxes := [], res := [.one (.n .own (.pair (.int .i64) (.pair (.int .i64) (.pair (.int .i64) (.pair .str (.pair .str (.pair (.int .i64) .bool))))))), .one (.i .i64)], rbox := [], frz := [] }
def L16 : Nat → Option LoopRec := fun _ => none
set_option maxRecDepth 100000 in
theorem run16 : ∀ x, gives F16 L16 f16 S16 x = (fun x => comment_Add x.1 x.2.1 x.2.2.1 x.2.2.2.1 x.2.2.2.2.1 x.2.2.2.2.2) x := by
  intro x
  kernel_rfl
theorem fn16 : FnCalls prog 16 (S16.F (fun x => comment_Add x.1 x.2.1 x.2.2.1 x.2.2.2.1 x.2.2.2.2.1 x.2.2.2.2.2)) := fn_sig (F := F16) (tbl := L16) func16 (by kernel_rfl) mix (cok_list (l := [(14, C14), (32, C32), (33, C33), (36, C36), (37, C37)]) (tabsT rfl rfl) rfl (List.forall_mem_cons.2 ⟨G14, List.forall_mem_cons.2 ⟨G32, List.forall_mem_cons.2 ⟨G33, List.forall_mem_cons.2 ⟨G36, List.forall_mem_cons.2 ⟨G37, by simp⟩⟩⟩⟩⟩)) (by kernel_rfl) (by kernel_rfl) (by decide) (fun _ => by kernel_rfl) run16
def C16 : Con := S16.con (by kernel_rfl) (fun x => comment_Add x.1 x.2.1 x.2.2.1 x.2.2.2.1 x.2.2.2.2.1 x.2.2.2.2.2)
theorem G16 : Good1 prog (16, C16) := good_of func16 (by kernel_rfl) (by kernel_rfl) fn16
end Go.Proofs.Ytppebjihnbbidaa.ve
/- bitext/bitextref28.ValidateNotes -/
namespace Go.Proofs.Ytppebjihnbbidaa.ve
open Go Go.Vs Go.Ve Go.Fn Go.Proofs.Try
set_option linter.unusedVariables false
def F15 : VFE := { cfg := { N := 77, T := T, R := R, con := fun _ f => lkF f [(34, C34), (35, C35)], var := [0, 2, 3], res := [2], eqs := EQ }, keys := [0, 2, 3, 4, 7, 8, 9, 10, 11, 52, 56, 75], bkeys := [.loc 4] }
def S15 : Sig := { args := [.one (.n .data (.pair (.int .i64) (.pair (.int .i64) (.pair (.int .i64) (.pair .str (.pair .str (.pair (.int .i64) .bool)))))))], boxes := [], res := [.one (.i .i64)], rbox := [], frz := [] }
def L15 : Nat → Option LoopRec := fun n => match n with
  | 0 => some { head := { live := [0, 8, 9, 10], lbox := [], vs := [.slot 10 (.i .i64)] }, exits := [(.ret, { live := [2], lbox := [], vs := [.slot 2 (.i .i64)] }), (.exit 0, { live := [], lbox := [], vs := [] })] }
  | _ => none
set_option maxRecDepth 100000 in
theorem run15 : ∀ x, gives F15 L15 f15 S15 x = (fun x => bitextref28_ValidateNotes x) x := by
  intro x
  kernel_rfl
theorem fn15 : FnCalls prog 15 (S15.F (fun x => bitextref28_ValidateNotes x)) := fn_sig (F := F15) (tbl := L15) func15 (by kernel_rfl) mix (cok_list (l := [(34, C34), (35, C35)]) (tabsT rfl rfl) rfl (List.forall_mem_cons.2 ⟨G34, List.forall_mem_cons.2 ⟨G35, by simp⟩⟩)) (by kernel_rfl) (by kernel_rfl) (by decide) (fun _ => by kernel_rfl) run15
def C15 : Con := S15.con (by kernel_rfl) (fun x => bitextref28_ValidateNotes x)
theorem G15 : Good1 prog (15, C15) := good_of func15 (by kernel_rfl) (by kernel_rfl) fn15
end Go.Proofs.Ytppebjihnbbidaa.ve
/- bitext/bitextref28.root -/
namespace Go.Proofs.Ytppebjihnbbidaa.ve
open Go Go.Vs Go.Ve Go.Fn Go.Proofs.Try
set_option linter.unusedVariables false
def F38 : VFE := { cfg := { N := 19, T := T, R := R, con := fun _ f => lkF f [], var := [0, 1, 2, 3, 4], res := [4], eqs := EQ }, keys := [0, 1, 4, 11], bkeys := [] }
def S38 : Sig := { args := [.one (.n .data (.pair (.int .i64) (.pair (.int .i64) (.pair (.int .i64) (.pair .str (.pair .str (.pair (.int .i64) .bool))))))), .one (.i .i64)], boxes := [], res := [.one (.i .i64)], rbox := [], frz := [] }
def L38 : Nat → Option LoopRec := fun n => match n with
  | 0 => some { head := { live := [0, 1], lbox := [], vs := [.slot 1 (.i .i64)] }, exits := [(.exit 0, { live := [1], lbox := [], vs := [.slot 1 (.i .i64)] })] }
  | _ => none
set_option maxRecDepth 100000 in
theorem run38 : ∀ x, gives F38 L38 f38 S38 x = (fun x => bitextref28_root x.1 x.2) x := by
  intro x
  kernel_rfl
theorem fn38 : FnCalls prog 38 (S38.F (fun x => bitextref28_root x.1 x.2)) := fn_sig (F := F38) (tbl := L38) func38 (by kernel_rfl) mix (cok_list (l := []) (tabsT rfl rfl) rfl (by simp)) (by kernel_rfl) (by kernel_rfl) (by decide) (fun _ => by kernel_rfl) run38
def C38 : Con := S38.con (by kernel_rfl) (fun x => bitextref28_root x.1 x.2)
theorem G38 : Good1 prog (38, C38) := good_of func38 (by kernel_rfl) (by kernel_rfl) fn38
end Go.Proofs.Ytppebjihnbbidaa.ve
/- bitext/bitextref28.AddNote -/
namespace Go.Proofs.Ytppebjihnbbidaa.ve
open Go Go.Vs Go.Ve Go.Fn Go.Proofs.Try
set_option linter.unusedVariables false
def F17 : VFE := { cfg := { N := 81, T := T, R := R, con := fun _ f => lkF f [(15, C15), (34, C34), (35, C35), (38, C38)], var := [0, 1, 2, 3, 4, 5, 12, 13, 14], res := [12, 13], eqs := EQ }, keys := [0, 1, 2, 3, 4, 5, 12, 13, 14, 18, 22, 37, 40, 42, 50, 58, 66], bkeys := [] }
def S17 : Sig := { args := [.one (.n .data (.pair (.int .i64) (.pair (.int .i64) (.pair (.int .i64) (.pair .str (.pair .str (.pair (.int .i64) .bool))))))), .one (.i .i64), .one (.i .i64), .one .s, .one .s, .one (.i .i64)], boxes := [], res := [.one (.n .own (.pair (.int .i64) (.pair (.int .i64) (.pair (.int .i64) (.pair .str (.pair .str (.pair (.int .i64) .bool))))))), .one (.i .i64)], rbox := [], frz := [] }
def L17 : Nat → Option LoopRec := fun _ => none
set_option maxRecDepth 100000 in
theorem run17 : ∀ x, gives F17 L17 f17 S17 x = (fun x => bitextref28_AddNote x.1 x.2.1 x.2.2.1 x.2.2.2.1 x.2.2.2.2.1 x.2.2.2.2.2) x := by
  intro x
  kernel_rfl
theorem fn17 : FnCalls prog 17 (S17.F (fun x => bitextref28_AddNote x.1 x.2.1 x.2.2.1 x.2.2.2.1 x.2.2.2.2.1 x.2.2.2.2.2)) := fn_sig (F := F17) (tbl := L17) func17 (by kernel_rfl) mix (cok_list (l := [(15, C15), (34, C34), (35, C35), (38, C38)]) (tabsT rfl rfl) rfl (List.forall_mem_cons.2 ⟨G15, List.forall_mem_cons.2 ⟨G34, List.forall_mem_cons.2 ⟨G35, List.forall_mem_cons.2 ⟨G38, by simp⟩⟩⟩⟩)) (by kernel_rfl) (by kernel_rfl) (by decide) (fun _ => by kernel_rfl) run17
def C17 : Con := S17.con (by kernel_rfl) (fun x => bitextref28_AddNote x.1 x.2.1 x.2.2.1 x.2.2.2.1 x.2.2.2.2.1 x.2.2.2.2.2)
theorem G17 : Good1 prog (17, C17) := good_of func17 (by kernel_rfl) (by kernel_rfl) fn17
end Go.Proofs.Ytppebjihnbbidaa.ve
/- bitext/bitextref28.SameNotes -/
namespace Go.Proofs.Ytppebjihnbbidaa.ve
open Go Go.Vs Go.Ve Go.Fn Go.Proofs.Try
set_option linter.unusedVariables false
def F18o0_1 : VFE := { cfg := { N := 26, T := T, R := R, con := fun _ f => lkF f [], var := [0, 1, 2, 3, 4, 5], res := [4], eqs := EQ }, keys := [0, 1, 4, 5, 10, 12, 13, 14, 24], bkeys := [] }
def S18o0_1 : Sig := { args := [.one (.n .own (.pair (.int .i64) (.pair (.int .i64) (.pair (.int .i64) (.pair .str (.pair .str (.pair (.int .i64) .bool))))))), .one (.n .own (.pair (.int .i64) (.pair (.int .i64) (.pair (.int .i64) (.pair .str (.pair .str (.pair (.int .i64) .bool)))))))], boxes := [], res := [.one .b], rbox := [], frz := [] }
def L18o0_1 : Nat → Option LoopRec := fun n => match n with
  | 0 => some { head := { live := [0, 1, 12, 13], lbox := [], vs := [.slot 13 (.i .i64)] }, exits := [(.ret, { live := [4], lbox := [], vs := [.slot 4 .b] }), (.exit 0, { live := [], lbox := [], vs := [] })] }
  | _ => none
set_option maxRecDepth 100000 in
theorem run18o0_1 : ∀ x, gives F18o0_1 L18o0_1 f18 S18o0_1 x = (fun x => bitextref28_SameNotes_o0_1 x.1 x.2) x := by
  intro x
  kernel_rfl
theorem fn18o0_1 : FnCalls prog 18 (S18o0_1.F (fun x => bitextref28_SameNotes_o0_1 x.1 x.2)) := fn_sig (F := F18o0_1) (tbl := L18o0_1) func18 (by kernel_rfl) mix (cok_list (l := []) (tabsT rfl rfl) rfl (by simp)) (by kernel_rfl) (by kernel_rfl) (by decide) (fun _ => by kernel_rfl) run18o0_1
def C18o0_1 : Con := S18o0_1.con (by kernel_rfl) (fun x => bitextref28_SameNotes_o0_1 x.1 x.2)
theorem G18o0_1 : Good1 prog (18, C18o0_1) := good_of func18 (by kernel_rfl) (by kernel_rfl) fn18o0_1
end Go.Proofs.Ytppebjihnbbidaa.ve
/- bitext/comment.Close -/
namespace Go.Proofs.Ytppebjihnbbidaa.ve
open Go Go.Vs Go.Ve Go.Fn Go.Proofs.Try
set_option linter.unusedVariables false
def F19o0 : VFE := { cfg := { N := 38, T := T, R := R, con := fun _ f => lkF f [(14, C14o0), (36, C36o0), (37, C37o0)], var := [0, 1, 2, 3, 4, 5, 6, 7, 8], res := [4, 5], eqs := EQ }, keys := [0, 1, 4, 5, 6, 7, 8, 12, 21, 30], bkeys := [] }
def S19o0 : Sig := { args := [.one (.n .own (.pair (.int .i64) (.pair (.int .i64) (.pair (.int .i64) (.pair .str (.pair .str (.pair (.int .i64) .bool))))))), .one (.i .i64)], boxes := [], res := [.one (.n .own (.pair (.int .i64) (.pair (.int .i64) (.pair (.int .i64) (.pair .str (.pair .str (.pair (.int .i64) .bool))))))), .one (.i .i64)], rbox := [], frz := [] }
def L19o0 : Nat → Option LoopRec := fun _ => none
set_option maxRecDepth 100000 in
theorem run19o0 : ∀ x, gives F19o0 L19o0 f19 S19o0 x = (fun x => comment_Close_o0 x.1 x.2) x := by
  intro x
  kernel_rfl
theorem fn19o0 : FnCalls prog 19 (S19o0.F (fun x => comment_Close_o0 x.1 x.2)) := fn_sig (F := F19o0) (tbl := L19o0) func19 (by kernel_rfl) mix (cok_list (l := [(14, C14o0), (36, C36o0), (37, C37o0)]) (tabsT rfl rfl) rfl (List.forall_mem_cons.2 ⟨G14o0, List.forall_mem_cons.2 ⟨G36o0, List.forall_mem_cons.2 ⟨G37o0, by simp⟩⟩⟩)) (by kernel_rfl) (by kernel_rfl) (by decide) (fun _ => by kernel_rfl) run19o0
def C19o0 : Con := S19o0.con (by kernel_rfl) (fun x => comment_Close_o0 x.1 x.2)
theorem G19o0 : Good1 prog (19, C19o0) := good_of func19 (by kernel_rfl) (by kernel_rfl) fn19o0
end Go.Proofs.Ytppebjihnbbidaa.ve
/- bitext/comment.Thread -/
namespace Go.Proofs.Ytppebjihnbbidaa.ve
open Go Go.Vs Go.Ve Go.Fn Go.Proofs.Try
set_option linter.unusedVariables false
def F22o0 : VFE := { cfg := { N := 42, T := T, R := R, con := fun _ f => lkF f [(14, C14o0), (36, C36o0)], var := [0, 1, 2, 3, 4, 5, 6, 7], res := [4], eqs := EQ }, keys := [0, 1, 4, 5, 7, 20, 21, 22, 23, 24, 34], bkeys := [.loc 7] }
def S22o0 : Sig := { args := [.one (.n .own (.pair (.int .i64) (.pair (.int .i64) (.pair (.int .i64) (.pair .str (.pair .str (.pair (.int .i64) .bool))))))), .one (.i .i64)], boxes := [], res := [.one (.n .own (.int .i64))], rbox := [], frz := [] }
def L22o0 : Nat → Option LoopRec := fun n => match n with
  | 0 => some { head := { live := [0, 1, 5, 21, 22, 23], lbox := [], vs := [.slot 5 (.n .own (.int .i64)), .slot 23 (.i .i64)] }, exits := [(.exit 0, { live := [5], lbox := [], vs := [.slot 5 (.n .own (.int .i64))] })] }
  | _ => none
set_option maxRecDepth 100000 in
theorem run22o0 : ∀ x, gives F22o0 L22o0 f22 S22o0 x = (fun x => comment_Thread_o0 x.1 x.2) x := by
  intro x
  kernel_rfl
theorem fn22o0 : FnCalls prog 22 (S22o0.F (fun x => comment_Thread_o0 x.1 x.2)) := fn_sig (F := F22o0) (tbl := L22o0) func22 (by kernel_rfl) mix (cok_list (l := [(14, C14o0), (36, C36o0)]) (tabsT rfl rfl) rfl (List.forall_mem_cons.2 ⟨G14o0, List.forall_mem_cons.2 ⟨G36o0, by simp⟩⟩)) (by kernel_rfl) (by kernel_rfl) (by decide) (fun _ => by kernel_rfl) run22o0
def C22o0 : Con := S22o0.con (by kernel_rfl) (fun x => comment_Thread_o0 x.1 x.2)
theorem G22o0 : Good1 prog (22, C22o0) := good_of func22 (by kernel_rfl) (by kernel_rfl) fn22o0
end Go.Proofs.Ytppebjihnbbidaa.ve
/- bitext/bitextref3.SameInts -/
namespace Go.Proofs.Ytppebjihnbbidaa.ve
open Go Go.Vs Go.Ve Go.Fn Go.Proofs.Try
set_option linter.unusedVariables false
def F21 : VFE := { cfg := { N := 26, T := T, R := R, con := fun _ f => lkF f [], var := [0, 1, 2, 3, 4, 5], res := [4], eqs := EQ }, keys := [0, 1, 4, 5, 10, 12, 13, 14, 24], bkeys := [] }
def S21 : Sig := { args := [.one (.n .data (.int .i64)), .one (.n .data (.int .i64))], boxes := [], res := [.one .b], rbox := [], frz := [] }
def L21 : Nat → Option LoopRec := fun n => match n with
  | 0 => some { head := { live := [0, 1, 12, 13], lbox := [], vs := [.slot 13 (.i .i64)] }, exits := [(.ret, { live := [4], lbox := [], vs := [.slot 4 .b] }), (.exit 0, { live := [], lbox := [], vs := [] })] }
  | _ => none
set_option maxRecDepth 100000 in
theorem run21 : ∀ x, gives F21 L21 f21 S21 x = (fun x => bitextref3_SameInts x.1 x.2) x := by
  intro x
  kernel_rfl
theorem fn21 : FnCalls prog 21 (S21.F (fun x => bitextref3_SameInts x.1 x.2)) := fn_sig (F := F21) (tbl := L21) func21 (by kernel_rfl) mix (cok_list (l := []) (tabsT rfl rfl) rfl (by simp)) (by kernel_rfl) (by kernel_rfl) (by decide) (fun _ => by kernel_rfl) run21
def C21 : Con := S21.con (by kernel_rfl) (fun x => bitextref3_SameInts x.1 x.2)
theorem G21 : Good1 prog (21, C21) := good_of func21 (by kernel_rfl) (by kernel_rfl) fn21
end Go.Proofs.Ytppebjihnbbidaa.ve
/- bitext/comment.Open -/
namespace Go.Proofs.Ytppebjihnbbidaa.ve
open Go Go.Vs Go.Ve Go.Fn Go.Proofs.Try
set_option linter.unusedVariables false
def F24o0 : VFE := { cfg := { N := 38, T := T, R := R, con := fun _ f => lkF f [(14, C14o0)], var := [0, 1, 2, 3, 4, 5, 6, 7], res := [4], eqs := EQ }, keys := [0, 1, 4, 5, 7, 10, 11, 12, 13, 14, 30], bkeys := [.loc 7] }
def S24o0 : Sig := { args := [.one (.n .own (.pair (.int .i64) (.pair (.int .i64) (.pair (.int .i64) (.pair .str (.pair .str (.pair (.int .i64) .bool))))))), .one (.i .i64)], boxes := [], res := [.one (.n .own (.int .i64))], rbox := [], frz := [] }
def L24o0 : Nat → Option LoopRec := fun n => match n with
  | 0 => some { head := { live := [1, 5, 11, 12, 13], lbox := [], vs := [.slot 5 (.n .own (.int .i64)), .slot 13 (.i .i64)] }, exits := [(.exit 0, { live := [5], lbox := [], vs := [.slot 5 (.n .own (.int .i64))] })] }
  | _ => none
set_option maxRecDepth 100000 in
theorem run24o0 : ∀ x, gives F24o0 L24o0 f24 S24o0 x = (fun x => comment_Open_o0 x.1 x.2) x := by
  intro x
  kernel_rfl
theorem fn24o0 : FnCalls prog 24 (S24o0.F (fun x => comment_Open_o0 x.1 x.2)) := fn_sig (F := F24o0) (tbl := L24o0) func24 (by kernel_rfl) mix (cok_list (l := [(14, C14o0)]) (tabsT rfl rfl) rfl (List.forall_mem_cons.2 ⟨G14o0, by simp⟩)) (by kernel_rfl) (by kernel_rfl) (by decide) (fun _ => by kernel_rfl) run24o0
def C24o0 : Con := S24o0.con (by kernel_rfl) (fun x => comment_Open_o0 x.1 x.2)
theorem G24o0 : Good1 prog (24, C24o0) := good_of func24 (by kernel_rfl) (by kernel_rfl) fn24o0
end Go.Proofs.Ytppebjihnbbidaa.ve
/- bitext/bitextlaw31.known -/
namespace Go.Proofs.Ytppebjihnbbidaa.ve
open Go Go.Vs Go.Ve Go.Fn Go.Proofs.Try
set_option linter.unusedVariables false
def F11 : VFE := { cfg := { N := 69, T := T, R := R, con := fun t f => lkS t f [(16, C16), (19, C19o0), (22, C22o0), (21, C21), (24, C24o0)] [(15, 16, C16o0), (20, 16, C16o0), (30, 16, C16o0)], var := [0, 1, 2, 3, 4, 5, 6, 7, 8], res := [0], eqs := EQ }, keys := [0, 1, 2, 3, 4, 5, 6, 8], bkeys := [] }
def S11 : Sig := { args := [], boxes := [], res := [.one .b], rbox := [], frz := [] }
def L11 : Nat → Option LoopRec := fun _ => none
set_option maxRecDepth 100000 in
theorem run11 : ∀ x, gives F11 L11 f11 S11 x = (fun _ => bitextlaw31_known) x := by
  intro x
  kernel_rfl
theorem fn11 : FnCalls prog 11 (S11.F (fun _ => bitextlaw31_known)) := fn_sig (F := F11) (tbl := L11) func11 (by kernel_rfl) mix (cok_sites (l := [(16, C16), (19, C19o0), (22, C22o0), (21, C21), (24, C24o0)]) (s := [(15, 16, C16o0), (20, 16, C16o0), (30, 16, C16o0)]) (tabsT rfl rfl) rfl (List.forall_mem_cons.2 ⟨G16, List.forall_mem_cons.2 ⟨G19o0, List.forall_mem_cons.2 ⟨G22o0, List.forall_mem_cons.2 ⟨G21, List.forall_mem_cons.2 ⟨G24o0, by simp⟩⟩⟩⟩⟩) (List.forall_mem_cons.2 ⟨G16o0, List.forall_mem_cons.2 ⟨G16o0, List.forall_mem_cons.2 ⟨G16o0, by simp⟩⟩⟩)) (by kernel_rfl) (by kernel_rfl) (by decide) (fun _ => by kernel_rfl) run11
def C11 : Con := S11.con (by kernel_rfl) (fun _ => bitextlaw31_known)
theorem G11 : Good1 prog (11, C11) := good_of func11 (by kernel_rfl) (by kernel_rfl) fn11
end Go.Proofs.Ytppebjihnbbidaa.ve
/- bitext/bitextlaw31.CommentLimits -/
namespace Go.Proofs.Ytppebjihnbbidaa.ve
open Go Go.Vs Go.Ve Go.Fn Go.Proofs.Try
set_option linter.unusedVariables false
def F5 : VFE := { cfg := { N := 88, T := T, R := R, con := fun t f => lkS t f [(13, C13), (16, C16o0), (17, C17o0), (18, C18o0_1), (11, C11)] [(58, 16, C16), (64, 17, C17)], var := [0, 1, 4, 5, 6, 7, 8, 9, 10, 11, 12, 13, 14, 15, 16], res := [4], eqs := EQ }, keys := [0, 1, 4, 5, 6, 7, 8, 9, 10, 11, 12, 13, 14, 15, 16, 22, 37, 38, 39], bkeys := [] }
def S5 : Sig := { args := [.one (.i .i64), .one (.i .i64)], boxes := [], res := [.one .b], rbox := [], frz := [] }
def L5 : Nat → Option LoopRec := fun n => match n with
  | 0 => some { head := { live := [1, 5, 6], lbox := [], vs := [.slot 5 (.n .own (.pair (.int .i64) (.pair (.int .i64) (.pair (.int .i64) (.pair .str (.pair .str (.pair (.int .i64) .bool))))))), .slot 6 (.i .i64)] }, exits := [(.exit 0, { live := [1, 5], lbox := [], vs := [.slot 5 (.n .own (.pair (.int .i64) (.pair (.int .i64) (.pair (.int .i64) (.pair .str (.pair .str (.pair (.int .i64) .bool)))))))] })] }
  | 1 => some { head := { live := [5, 7, 37, 38], lbox := [], vs := [.slot 7 (.l .own (.int .u8)), .slot 38 (.i .i64)] }, exits := [(.exit 2, { live := [5, 7], lbox := [], vs := [.slot 7 (.l .own (.int .u8))] })] }
  | _ => none
set_option maxRecDepth 100000 in
theorem run5 : ∀ x, gives F5 L5 f5 S5 x = (fun x => bitextlaw31_CommentLimits x.1 x.2) x := by
  intro x
  kernel_rfl
theorem fn5 : FnCalls prog 5 (S5.F (fun x => bitextlaw31_CommentLimits x.1 x.2)) := fn_sig (F := F5) (tbl := L5) func5 (by kernel_rfl) mix (cok_sites (l := [(13, C13), (16, C16o0), (17, C17o0), (18, C18o0_1), (11, C11)]) (s := [(58, 16, C16), (64, 17, C17)]) (tabsT rfl rfl) rfl (List.forall_mem_cons.2 ⟨G13, List.forall_mem_cons.2 ⟨G16o0, List.forall_mem_cons.2 ⟨G17o0, List.forall_mem_cons.2 ⟨G18o0_1, List.forall_mem_cons.2 ⟨G11, by simp⟩⟩⟩⟩⟩) (List.forall_mem_cons.2 ⟨G16, List.forall_mem_cons.2 ⟨G17, by simp⟩⟩)) (by kernel_rfl) (by kernel_rfl) (by decide) (fun _ => by kernel_rfl) run5
def C5 : Con := S5.con (by kernel_rfl) (fun x => bitextlaw31_CommentLimits x.1 x.2)
theorem G5 : Good1 prog (5, C5) := good_of func5 (by kernel_rfl) (by kernel_rfl) fn5
end Go.Proofs.Ytppebjihnbbidaa.ve
/- The law CommentLimits holds. -/
namespace Go.Proofs.Ytppebjihnbbidaa.commentLimits
open Go Go.ChangeShapes Go.WideShapes Go.ChangeAt Go.RowKit Go.Vs Go.Ve Go.Fn Go.Proofs.Ytppebjihnbbidaa.ve
set_option linter.unusedVariables false
theorem own : ownKnob Try.prog.godebug = none := by kernel_rfl
def B (H : Type) : Bulk H where
  one := Rows.uptoBulk
  all := Rows.uptoBulkAll
  str := fun _ => by simp only [Rows.uptoBulk]
  slice := fun _ _ => by simp only [Rows.uptoBulk]
  agg := fun _ => by simp only [Rows.uptoBulk]
  pos := fun d => by
    cases d with
    | lit l => cases l <;> simp only [Rows.uptoBulk] <;> omega
    | _ => simp only [Rows.uptoBulk] <;> omega
  nil := by simp only [Rows.uptoBulkAll]
  cons := fun _ _ => by simp only [Rows.uptoBulkAll]
theorem contract (H : Type) (enc : TypeId × Value → H) (W : World) (base : Nat) (args : Array Value) (ds gs : List (DataW H)) (before : List MemPlace)
    (hval : ∀ (j : Nat) t v, Try.f5.params[j]? = some t → args[j]? = some v → Value.okWide Try.prog W .any base t v)
    (hW : DataW.Whole enc Try.prog Try.f5.params.toList Rows.commentLimitsSpec.vars false W args.toList ds gs before) (hk : Rows.uptoSmall H (ds ++ gs) = true) :
    Calls Try.prog 5 args W fun e W' => ∃ v, e = .returned v ∧ Rows.commentLimitsSpec.post enc Try.prog Try.f5 false true false false W args v W' :=
  law_typed (cfg := F5.cfg.c) (l := S5.args) (n := 20) (m := 1048576) (ts := Try.f5.params.toList) (sp := Rows.commentLimitsSpec) (by kernel_rfl) fn5 (tabsT rfl rfl) rfl rfl (tb := 4) (by kernel_rfl) (by kernel_rfl)
    (by kernel_rfl) (by
      intro t ht
      exact List.all_eq_true.1 (by kernel_rfl : Try.f5.params.toList.all (fun t => plainT F5.cfg.c 20 t) = true) t ht) (by kernel_rfl)
    (by
      intro t ht
      have := List.all_eq_true.1 (by kernel_rfl : Try.f5.params.toList.all (fun t => Try.prog.readableRec t && Nat.blt t Try.prog.types.size) = true) t ht
      rw [Bool.and_eq_true, Nat.blt_eq] at this
      exact this) (B H) (Nat.le_trans (bulk_append (B H) ds gs) (of_decide_eq_true hk))
    (fun x hw hb => ⟨x, rfl, limits31_holds x.1 x.2 hw.1 hw.2.1⟩)
    (fun ds h => by
      match ds, h with
      | [d1, d2], _ => rfl)
    hval hW
set_option maxRecDepth 100000 in
theorem lifted (os : Os) (started : os.Started) (H : Type) (enc : TypeId × Value → H) (F : Stop.Interp) :
    ReturnsInHanded {} Try.checked os 5 .any ((Rows.OpenSpec.upto Rows.commentLimitsSpec).pre6 enc Try.prog Try.f5 Rows.commentLimitsUptoRow.domain false) (((Rows.OpenSpec.upto Rows.commentLimitsSpec).at F).post enc Try.prog Try.f5 false true false false) := by
  refine returnsInHanded_of_cond (C := Try.checked) (s := Rows.OpenSpec.upto Rows.commentLimitsSpec) (k := Rows.uptoSmall) rfl own started (by kernel_rfl) Try.func5
    (OpenSpec.witness (enc := enc) (C := Try.checked) (s := Rows.OpenSpec.upto Rows.commentLimitsSpec) (k := Rows.uptoSmall) rfl false ⟨#[], #[.int .i64 0, .int .i64 0], []⟩ 8 (by kernel_rfl) (by kernel_rfl) (by kernel_rfl)
      (x := ([.lit (.int .i64 0), .lit (.int .i64 0)], [], [])) (by kernel_rfl) rfl (by kernel_rfl)) ?_
  intro W base args ds gs before hval hW _ hk _
  exact contract H enc W base args ds gs before hval hW hk
theorem over : Rows.commentLimitsUptoRow.holds Try.pinned (Rows.OpenSpec.upto Rows.commentLimitsSpec) :=
  OpenClaim.holds_of_cond 5 Try.f5 rfl rfl rfl rfl rfl rfl rfl ⟨rfl, rfl, rfl, rfl, rfl⟩ rfl rfl rfl rfl rfl (by kernel_rfl) Try.func5 (by kernel_rfl)
    (of_decide_eq_true (by kernel_rfl)) (by unfold Func.isWrapper; first | (rw [if_pos (by decide +kernel)]; kernel_rfl) | (rw [if_neg (by decide +kernel)]; exact ⟨rfl, rfl⟩))
    (fun os started H enc _ F => lifted os started H enc F)
theorem proved : Rows.CommentLimitsUptoSaid :=
  over
end Go.Proofs.Ytppebjihnbbidaa.commentLimits
#print axioms Go.Proofs.Ytppebjihnbbidaa.commentLimits.proved
