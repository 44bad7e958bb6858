/- The statement JournalLimitsUptoSaid of the given program is proved here: for every input whose bulk is at most the bound of its row, the law returns true and changes nothing. Part 6 of 6. -/
import Derived.Test.YtlfliofoiafbjaaChecked
import Derived.KernelRfl
import Derived.Test.YtlfliofoiafbjaaRows
import Derived.JoinedCond
import Derived.Test.YtlfliofoiafbjaaV5
/- The seat's types. -/
namespace Go.Proofs.Ytlfliofoiafbjaa.ve
open Go Go.Vs Go.Ve Go.Fn Go.Proofs.Try
def T : List (TypeId × TI) := [(3, ⟨1, 8, .int .i64, (some [.int .i64 0])⟩),
  (4, ⟨1, 1, .bool, (some [.bool false])⟩),
  (5, ⟨1, 1, .int .u8, (some [.int .u8 0])⟩),
  (9, ⟨1, 16, .str, (some [.str []])⟩),
  (22, ⟨1, 24, .slice 5, (some [.nil])⟩),
  (28, ⟨1, 8, .int .i64, (some [.int .i64 0])⟩),
  (32, ⟨1, 24, .slice 22, (some [.nil])⟩),
  (38, ⟨1, 4, .int .u32, (some [.int .u32 0])⟩)]
def R : List (TypeId × Ty) := [(3, (.int .i64)),
  (4, .bool),
  (5, (.int .u8)),
  (9, .str),
  (22, (.sl (.int .u8))),
  (28, (.int .i64)),
  (32, (.sl (.sl (.int .u8)))),
  (38, (.int .u32))]
def AllP {α : Type} (p : α → Prop) : List α → Prop
  | [] => True
  | a :: r => p a ∧ AllP p r
theorem AllP.mem {α : Type} {p : α → Prop} : ∀ {l : List α}, AllP p l → ∀ x ∈ l, p x
  | _ :: _, h, _, .head _ => h.1
  | _ :: _, h, _, .tail _ hx => AllP.mem h.2 _ hx
theorem T_ok : AllP (fun x => tiOf prog x.1 = some x.2) T := ⟨by show tiOf prog _ = some _; kernel_rfl, by show tiOf prog _ = some _; kernel_rfl, by show tiOf prog _ = some _; kernel_rfl, by show tiOf prog _ = some _; kernel_rfl, by show tiOf prog _ = some _; kernel_rfl, by show tiOf prog _ = some _; kernel_rfl, by show tiOf prog _ = some _; kernel_rfl, by show tiOf prog _ = some _; kernel_rfl, trivial⟩
theorem lk_mem {α : Type} {t : Nat} {v : α} : ∀ {l : List (Nat × α)}, lk t l = some v → (t, v) ∈ l
  | (u, w) :: l, h => by
    unfold lk at h
    split at h
    · rename_i e; cases h; subst e; simp
    · exact List.mem_cons_of_mem _ (lk_mem h)
def EQ : List (TypeId × List Sc) := []
theorem EQ_ok : AllP (fun x => EqOk prog x.1 x.2) EQ := trivial
theorem tabsT {cfg : Cfg} (h : cfg.T = T) (he : (cfg.eqs == [] || cfg.eqs == EQ) = true) : Tabs prog cfg :=
  ⟨fun t i hi => AllP.mem T_ok (t, i) (lk_mem (by rw [← h]; exact hi)), fun t sh ht => by
    rw [Bool.or_eq_true, beq_iff_eq, beq_iff_eq] at he
    rcases he with he | he
    · rw [he] at ht; cases ht
    · rw [he] at ht; exact AllP.mem EQ_ok (t, sh) (lk_mem ht)⟩
theorem mix : prog.follows .mixedOrders = true := by kernel_rfl
end Go.Proofs.Ytlfliofoiafbjaa.ve
/- bitext/bitextmake.Place -/
namespace Go.Proofs.Ytlfliofoiafbjaa.ve
open Go Go.Vs Go.Ve Go.Fn Go.Proofs.Try
set_option linter.unusedVariables false
def F10 : VFE := { cfg := { N := 14, T := T, R := R, con := fun _ f => lkF f [], var := [0, 1, 2, 3, 4], res := [4], eqs := EQ }, keys := [0, 1, 4, 9], bkeys := [] }
def S10 : Sig := { args := [.one (.i .i64), .one (.i .i64)], boxes := [], res := [.one (.i .i64)], rbox := [], frz := [] }
def L10 : Nat → Option LoopRec := fun _ => none
set_option maxRecDepth 100000 in
theorem run10 : ∀ x, gives F10 L10 f10 S10 x = (fun x => bitextmake_Place x.1 x.2) x := by
  intro x
  kernel_rfl
theorem fn10 : FnCalls prog 10 (S10.F (fun x => bitextmake_Place x.1 x.2)) := fn_sig (F := F10) (tbl := L10) func10 (by kernel_rfl) mix (cok_list (l := []) (tabsT rfl rfl) rfl (by simp)) (by kernel_rfl) (by kernel_rfl) (by decide) (fun _ => by kernel_rfl) run10
def C10 : Con := S10.con (by kernel_rfl) (fun x => bitextmake_Place x.1 x.2)
theorem G10 : Good1 prog (10, C10) := good_of func10 (by kernel_rfl) (by kernel_rfl) fn10
end Go.Proofs.Ytlfliofoiafbjaa.ve
/- bitext/journal.number -/
namespace Go.Proofs.Ytlfliofoiafbjaa.ve
open Go Go.Vs Go.Ve Go.Fn Go.Proofs.Try
set_option linter.unusedVariables false
def F16 : VFE := { cfg := { N := 15, T := T, R := R, con := fun _ f => lkF f [], var := [0, 1, 2], res := [2], eqs := EQ }, keys := [0, 2], bkeys := [] }
def S16 : Sig := { args := [.one (.i .u32)], boxes := [], res := [.one (.n .own (.int .u8))], rbox := [], frz := [] }
def L16 : Nat → Option LoopRec := fun _ => none
set_option maxRecDepth 100000 in
theorem run16 : ∀ x, gives F16 L16 f16 S16 x = (fun x => journal_number x) x := by
  intro x
  kernel_rfl
theorem fn16 : FnCalls prog 16 (S16.F (fun x => journal_number x)) := fn_sig (F := F16) (tbl := L16) func16 (by kernel_rfl) mix (cok_list (l := []) (tabsT rfl rfl) rfl (by simp)) (by kernel_rfl) (by kernel_rfl) (by decide) (fun _ => by kernel_rfl) run16
def C16 : Con := S16.con (by kernel_rfl) (fun x => journal_number x)
theorem G16 : Good1 prog (16, C16) := good_of func16 (by kernel_rfl) (by kernel_rfl) fn16
end Go.Proofs.Ytlfliofoiafbjaa.ve
/- bitext/journal.sum -/
namespace Go.Proofs.Ytlfliofoiafbjaa.ve
open Go Go.Vs Go.Ve Go.Fn Go.Proofs.Try
set_option linter.unusedVariables false
def F15o1 : VFE := { cfg := { N := 20, T := T, R := R, con := fun _ f => lkF f [], var := [0, 1, 2, 3, 4, 5, 6], res := [4], eqs := EQ }, keys := [0, 1, 4, 6, 7, 8, 9, 10], bkeys := [] }
def S15o1 : Sig := { args := [.one (.i .u32), .one (.n .own (.int .u8))], boxes := [], res := [.one (.i .u32)], rbox := [], frz := [] }
def L15o1 : Nat → Option LoopRec := fun n => match n with
  | 0 => some { head := { live := [0, 7, 8, 9], lbox := [], vs := [.slot 0 (.i .u32), .slot 9 (.i .i64)] }, exits := [(.exit 0, { live := [0], lbox := [], vs := [.slot 0 (.i .u32)] })] }
  | _ => none
set_option maxRecDepth 100000 in
theorem run15o1 : ∀ x, gives F15o1 L15o1 f15 S15o1 x = (fun x => journal_sum_o1 x.1 x.2) x := by
  intro x
  kernel_rfl
theorem fn15o1 : FnCalls prog 15 (S15o1.F (fun x => journal_sum_o1 x.1 x.2)) := fn_sig (F := F15o1) (tbl := L15o1) func15 (by kernel_rfl) mix (cok_list (l := []) (tabsT rfl rfl) rfl (by simp)) (by kernel_rfl) (by kernel_rfl) (by decide) (fun _ => by kernel_rfl) run15o1
def C15o1 : Con := S15o1.con (by kernel_rfl) (fun x => journal_sum_o1 x.1 x.2)
theorem G15o1 : Good1 prog (15, C15o1) := good_of func15 (by kernel_rfl) (by kernel_rfl) fn15o1
end Go.Proofs.Ytlfliofoiafbjaa.ve
/- bitext/journal.sum -/
namespace Go.Proofs.Ytlfliofoiafbjaa.ve
open Go Go.Vs Go.Ve Go.Fn Go.Proofs.Try
set_option linter.unusedVariables false
def F15 : VFE := { cfg := { N := 20, T := T, R := R, con := fun _ f => lkF f [], var := [0, 1, 2, 3, 4, 5, 6], res := [4], eqs := EQ }, keys := [0, 1, 4, 6, 7, 8, 9, 10], bkeys := [] }
def S15 : Sig := { args := [.one (.i .u32), .one (.n .data (.int .u8))], boxes := [], res := [.one (.i .u32)], rbox := [], frz := [] }
def L15 : Nat → Option LoopRec := fun n => match n with
  | 0 => some { head := { live := [0, 7, 8, 9], lbox := [], vs := [.slot 0 (.i .u32), .slot 9 (.i .i64)] }, exits := [(.exit 0, { live := [0], lbox := [], vs := [.slot 0 (.i .u32)] })] }
  | _ => none
set_option maxRecDepth 100000 in
theorem run15 : ∀ x, gives F15 L15 f15 S15 x = (fun x => journal_sum x.1 x.2) x := by
  intro x
  kernel_rfl
theorem fn15 : FnCalls prog 15 (S15.F (fun x => journal_sum x.1 x.2)) := fn_sig (F := F15) (tbl := L15) func15 (by kernel_rfl) mix (cok_list (l := []) (tabsT rfl rfl) rfl (by simp)) (by kernel_rfl) (by kernel_rfl) (by decide) (fun _ => by kernel_rfl) run15
def C15 : Con := S15.con (by kernel_rfl) (fun x => journal_sum x.1 x.2)
theorem G15 : Good1 prog (15, C15) := good_of func15 (by kernel_rfl) (by kernel_rfl) fn15
end Go.Proofs.Ytlfliofoiafbjaa.ve
/- slices.Grow[[]byte,byte] -/
namespace Go.Proofs.Ytlfliofoiafbjaa.ve
open Go Go.Vs Go.Ve Go.Fn Go.Proofs.Try
set_option linter.unusedVariables false
def F22 : VFE := { cfg := { N := 27, T := T, R := R, con := fun _ f => lkF f [], var := [0, 1, 2, 3, 4], res := [4], eqs := EQ }, keys := [0, 1, 4, 6, 16], bkeys := [] }
def S22 : Sig := { args := [.nls, .one (.i .i64)], boxes := [], res := [.one (.n .own (.int .u8))], rbox := [], frz := [] }
def L22 : Nat → Option LoopRec := fun _ => none
set_option maxRecDepth 100000 in
theorem run22 : ∀ x, gives F22 L22 f22 S22 x = (fun x => slices_Grow_byte x) x := by
  intro x
  kernel_rfl
theorem fn22 : FnCalls prog 22 (S22.F (fun x => slices_Grow_byte x)) := fn_sig (F := F22) (tbl := L22) func22 (by kernel_rfl) mix (cok_list (l := []) (tabsT rfl rfl) rfl (by simp)) (by kernel_rfl) (by kernel_rfl) (by decide) (fun _ => by kernel_rfl) run22
def C22 : Con := S22.con (by kernel_rfl) (fun x => slices_Grow_byte x)
theorem G22 : Good1 prog (22, C22) := good_of func22 (by kernel_rfl) (by kernel_rfl) fn22
end Go.Proofs.Ytlfliofoiafbjaa.ve
/- slices.Concat[[]byte,byte] -/
namespace Go.Proofs.Ytlfliofoiafbjaa.ve
open Go Go.Vs Go.Ve Go.Fn Go.Proofs.Try
set_option linter.unusedVariables false
def F17 : VFE := { cfg := { N := 36, T := T, R := R, con := fun _ f => lkF f [(22, C22)], var := [0, 1, 2, 3, 4, 5, 6, 7, 8], res := [2], eqs := EQ }, keys := [0, 2, 3, 5, 6, 8, 9, 10, 11, 12, 20, 25, 26, 27, 28], bkeys := [] }
def S17 : Sig := { args := [.one (.n .data (.sl (.int .u8)))], boxes := [], res := [.one (.n .own (.int .u8))], rbox := [], frz := [] }
def L17 : Nat → Option LoopRec := fun n => match n with
  | 0 => some { head := { live := [0, 3, 9, 10, 11], lbox := [], vs := [.slot 3 (.i .i64), .slot 11 (.i .i64)] }, exits := [(.exit 0, { live := [0, 3], lbox := [], vs := [.slot 3 (.i .i64)] })] }
  | 1 => some { head := { live := [6, 25, 26, 27], lbox := [], vs := [.slot 6 (.n .own (.int .u8)), .slot 27 (.i .i64)] }, exits := [(.exit 2, { live := [6], lbox := [], vs := [.slot 6 (.n .own (.int .u8))] })] }
  | _ => none
set_option maxRecDepth 100000 in
theorem run17 : ∀ x, gives F17 L17 f17 S17 x = (fun x => slices_Concat_byte x) x := by
  intro x
  kernel_rfl
theorem fn17 : FnCalls prog 17 (S17.F (fun x => slices_Concat_byte x)) := fn_sig (F := F17) (tbl := L17) func17 (by kernel_rfl) mix (cok_list (l := [(22, C22)]) (tabsT rfl rfl) rfl (List.forall_mem_cons.2 ⟨G22, by simp⟩)) (by kernel_rfl) (by kernel_rfl) (by decide) (fun _ => by kernel_rfl) run17
def C17 : Con := S17.con (by kernel_rfl) (fun x => slices_Concat_byte x)
theorem G17 : Good1 prog (17, C17) := good_of func17 (by kernel_rfl) (by kernel_rfl) fn17
end Go.Proofs.Ytlfliofoiafbjaa.ve
/- bitext/journal.Append -/
namespace Go.Proofs.Ytlfliofoiafbjaa.ve
open Go Go.Vs Go.Ve Go.Fn Go.Proofs.Try
set_option linter.unusedVariables false
def F11 : VFE := { cfg := { N := 35, T := T, R := R, con := fun t f => lkS t f [(16, C16), (15, C15o1), (17, C17)] [(27, 15, C15)], var := [0, 1, 2, 3, 4, 5, 6, 7], res := [4, 5], eqs := EQ }, keys := [0, 1, 4, 5, 6, 7, 19], bkeys := [] }
def S11 : Sig := { args := [.one (.n .data (.int .u8)), .one (.n .data (.int .u8))], boxes := [], res := [.one (.n .own (.int .u8)), .one (.i .i64)], rbox := [], frz := [] }
def L11 : Nat → Option LoopRec := fun _ => none
set_option maxRecDepth 100000 in
theorem run11 : ∀ x, gives F11 L11 f11 S11 x = (fun x => journal_Append x.1 x.2) x := by
  intro x
  kernel_rfl
theorem fn11 : FnCalls prog 11 (S11.F (fun x => journal_Append x.1 x.2)) := fn_sig (F := F11) (tbl := L11) func11 (by kernel_rfl) mix (cok_sites (l := [(16, C16), (15, C15o1), (17, C17)]) (s := [(27, 15, C15)]) (tabsT rfl rfl) rfl (List.forall_mem_cons.2 ⟨G16, List.forall_mem_cons.2 ⟨G15o1, List.forall_mem_cons.2 ⟨G17, by simp⟩⟩⟩) (List.forall_mem_cons.2 ⟨G15, by simp⟩)) (by kernel_rfl) (by kernel_rfl) (by decide) (fun _ => by kernel_rfl) run11
def C11 : Con := S11.con (by kernel_rfl) (fun x => journal_Append x.1 x.2)
theorem G11 : Good1 prog (11, C11) := good_of func11 (by kernel_rfl) (by kernel_rfl) fn11
end Go.Proofs.Ytlfliofoiafbjaa.ve
/- bitext/journal.value -/
namespace Go.Proofs.Ytlfliofoiafbjaa.ve
open Go Go.Vs Go.Ve Go.Fn Go.Proofs.Try
set_option linter.unusedVariables false
def F24o0 : VFE := { cfg := { N := 25, T := T, R := R, con := fun _ f => lkF f [], var := [0, 1, 2], res := [2], eqs := EQ }, keys := [0, 2], bkeys := [] }
def S24o0 : Sig := { args := [.one (.n .own (.int .u8))], boxes := [], res := [.one (.i .u32)], rbox := [], frz := [] }
def L24o0 : Nat → Option LoopRec := fun _ => none
set_option maxRecDepth 100000 in
theorem run24o0 : ∀ x, gives F24o0 L24o0 f24 S24o0 x = (fun x => journal_value_o0 x) x := by
  intro x
  kernel_rfl
theorem fn24o0 : FnCalls prog 24 (S24o0.F (fun x => journal_value_o0 x)) := fn_sig (F := F24o0) (tbl := L24o0) func24 (by kernel_rfl) mix (cok_list (l := []) (tabsT rfl rfl) rfl (by simp)) (by kernel_rfl) (by kernel_rfl) (by decide) (fun _ => by kernel_rfl) run24o0
def C24o0 : Con := S24o0.con (by kernel_rfl) (fun x => journal_value_o0 x)
theorem G24o0 : Good1 prog (24, C24o0) := good_of func24 (by kernel_rfl) (by kernel_rfl) fn24o0
end Go.Proofs.Ytlfliofoiafbjaa.ve
/- bitext/journal.first -/
namespace Go.Proofs.Ytlfliofoiafbjaa.ve
open Go Go.Vs Go.Ve Go.Fn Go.Proofs.Try
set_option linter.unusedVariables false
def F19o0 : VFE := { cfg := { N := 33, T := T, R := R, con := fun _ f => lkF f [(24, C24o0), (15, C15o1)], var := [0, 1, 2, 3], res := [2], eqs := EQ }, keys := [0, 2, 3, 6, 18, 30], bkeys := [] }
def S19o0 : Sig := { args := [.one (.n .own (.int .u8))], boxes := [], res := [.one (.i .i64)], rbox := [], frz := [] }
def L19o0 : Nat → Option LoopRec := fun _ => none
set_option maxRecDepth 100000 in
theorem run19o0 : ∀ x, gives F19o0 L19o0 f19 S19o0 x = (fun x => journal_first_o0 x) x := by
  intro x
  kernel_rfl
theorem fn19o0 : FnCalls prog 19 (S19o0.F (fun x => journal_first_o0 x)) := fn_sig (F := F19o0) (tbl := L19o0) func19 (by kernel_rfl) mix (cok_list (l := [(24, C24o0), (15, C15o1)]) (tabsT rfl rfl) rfl (List.forall_mem_cons.2 ⟨G24o0, List.forall_mem_cons.2 ⟨G15o1, by simp⟩⟩)) (by kernel_rfl) (by kernel_rfl) (by decide) (fun _ => by kernel_rfl) run19o0
def C19o0 : Con := S19o0.con (by kernel_rfl) (fun x => journal_first_o0 x)
theorem G19o0 : Good1 prog (19, C19o0) := good_of func19 (by kernel_rfl) (by kernel_rfl) fn19o0
end Go.Proofs.Ytlfliofoiafbjaa.ve
/- slices.Clone[[]byte,byte] -/
namespace Go.Proofs.Ytlfliofoiafbjaa.ve
open Go Go.Vs Go.Ve Go.Fn Go.Proofs.Try
set_option linter.unusedVariables false
def F20o0 : VFE := { cfg := { N := 8, T := T, R := R, con := fun _ f => lkF f [], var := [0, 1, 2], res := [2], eqs := EQ }, keys := [0, 2, 4], bkeys := [] }
def S20o0 : Sig := { args := [.one (.n .own (.int .u8))], boxes := [], res := [.one (.n .own (.int .u8))], rbox := [], frz := [] }
def L20o0 : Nat → Option LoopRec := fun _ => none
set_option maxRecDepth 100000 in
theorem run20o0 : ∀ x, gives F20o0 L20o0 f20 S20o0 x = (fun x => slices_Clone_byte_o0 x) x := by
  intro x
  kernel_rfl
theorem fn20o0 : FnCalls prog 20 (S20o0.F (fun x => slices_Clone_byte_o0 x)) := fn_sig (F := F20o0) (tbl := L20o0) func20 (by kernel_rfl) mix (cok_list (l := []) (tabsT rfl rfl) rfl (by simp)) (by kernel_rfl) (by kernel_rfl) (by decide) (fun _ => by kernel_rfl) run20o0
def C20o0 : Con := S20o0.con (by kernel_rfl) (fun x => slices_Clone_byte_o0 x)
theorem G20o0 : Good1 prog (20, C20o0) := good_of func20 (by kernel_rfl) (by kernel_rfl) fn20o0
end Go.Proofs.Ytlfliofoiafbjaa.ve
/- bitext/journal.Read -/
namespace Go.Proofs.Ytlfliofoiafbjaa.ve
open Go Go.Vs Go.Ve Go.Fn Go.Proofs.Try
set_option linter.unusedVariables false
def F13o0 : VFE := { cfg := { N := 27, T := T, R := R, con := fun _ f => lkF f [(19, C19o0), (20, C20o0)], var := [0, 1, 2, 3, 4], res := [2, 3], eqs := EQ }, keys := [0, 2, 3, 4, 10], bkeys := [] }
def S13o0 : Sig := { args := [.one (.n .own (.int .u8))], boxes := [], res := [.one (.n .own (.sl (.int .u8))), .one (.i .i64)], rbox := [], frz := [] }
def L13o0 : Nat → Option LoopRec := fun n => match n with
  | 0 => some { head := { live := [0, 2, 3], lbox := [], vs := [.slot 2 (.n .own (.sl (.int .u8))), .slot 3 (.i .i64)] }, exits := [(.ret, { live := [2, 3], lbox := [], vs := [.slot 2 (.n .own (.sl (.int .u8))), .slot 3 (.i .i64)] })] }
  | _ => none
set_option maxRecDepth 100000 in
theorem run13o0 : ∀ x, gives F13o0 L13o0 f13 S13o0 x = (fun x => journal_Read_o0 x) x := by
  intro x
  kernel_rfl
theorem fn13o0 : FnCalls prog 13 (S13o0.F (fun x => journal_Read_o0 x)) := fn_sig (F := F13o0) (tbl := L13o0) func13 (by kernel_rfl) mix (cok_list (l := [(19, C19o0), (20, C20o0)]) (tabsT rfl rfl) rfl (List.forall_mem_cons.2 ⟨G19o0, List.forall_mem_cons.2 ⟨G20o0, by simp⟩⟩)) (by kernel_rfl) (by kernel_rfl) (by decide) (fun _ => by kernel_rfl) run13o0
def C13o0 : Con := S13o0.con (by kernel_rfl) (fun x => journal_Read_o0 x)
theorem G13o0 : Good1 prog (13, C13o0) := good_of func13 (by kernel_rfl) (by kernel_rfl) fn13o0
end Go.Proofs.Ytlfliofoiafbjaa.ve
/- bitext/journal.Checksum -/
namespace Go.Proofs.Ytlfliofoiafbjaa.ve
open Go Go.Vs Go.Ve Go.Fn Go.Proofs.Try
set_option linter.unusedVariables false
def F8 : VFE := { cfg := { N := 6, T := T, R := R, con := fun _ f => lkF f [(15, C15)], var := [0, 1, 2], res := [2], eqs := EQ }, keys := [0, 2], bkeys := [] }
def S8 : Sig := { args := [.one (.n .data (.int .u8))], boxes := [], res := [.one (.i .i64)], rbox := [], frz := [] }
def L8 : Nat → Option LoopRec := fun _ => none
set_option maxRecDepth 100000 in
theorem run8 : ∀ x, gives F8 L8 f8 S8 x = (fun x => journal_Checksum x) x := by
  intro x
  kernel_rfl
theorem fn8 : FnCalls prog 8 (S8.F (fun x => journal_Checksum x)) := fn_sig (F := F8) (tbl := L8) func8 (by kernel_rfl) mix (cok_list (l := [(15, C15)]) (tabsT rfl rfl) rfl (List.forall_mem_cons.2 ⟨G15, by simp⟩)) (by kernel_rfl) (by kernel_rfl) (by decide) (fun _ => by kernel_rfl) run8
def C8 : Con := S8.con (by kernel_rfl) (fun x => journal_Checksum x)
theorem G8 : Good1 prog (8, C8) := good_of func8 (by kernel_rfl) (by kernel_rfl) fn8
end Go.Proofs.Ytlfliofoiafbjaa.ve
/- bitext/bitextlaw38.known -/
namespace Go.Proofs.Ytlfliofoiafbjaa.ve
open Go Go.Vs Go.Ve Go.Fn Go.Proofs.Try
set_option linter.unusedVariables false
def F7 : VFE := { cfg := { N := 54, T := T, R := R, con := fun _ f => lkF f [(11, C11), (13, C13o0), (8, C8)], var := [0, 1, 2, 3, 4, 5, 6], res := [0], eqs := EQ }, keys := [0, 1, 2, 3, 4, 5, 6, 13], bkeys := [] }
def S7 : Sig := { args := [], boxes := [], res := [.one .b], rbox := [], frz := [] }
def L7 : Nat → Option LoopRec := fun _ => none
set_option maxRecDepth 100000 in
theorem run7 : ∀ x, gives F7 L7 f7 S7 x = (fun _ => bitextlaw38_known) x := by
  intro x
  kernel_rfl
theorem fn7 : FnCalls prog 7 (S7.F (fun _ => bitextlaw38_known)) := fn_sig (F := F7) (tbl := L7) func7 (by kernel_rfl) mix (cok_list (l := [(11, C11), (13, C13o0), (8, C8)]) (tabsT rfl rfl) rfl (List.forall_mem_cons.2 ⟨G11, List.forall_mem_cons.2 ⟨G13o0, List.forall_mem_cons.2 ⟨G8, by simp⟩⟩⟩)) (by kernel_rfl) (by kernel_rfl) (by decide) (fun _ => by kernel_rfl) run7
def C7 : Con := S7.con (by kernel_rfl) (fun _ => bitextlaw38_known)
theorem G7 : Good1 prog (7, C7) := good_of func7 (by kernel_rfl) (by kernel_rfl) fn7
end Go.Proofs.Ytlfliofoiafbjaa.ve
/- bitext/bitextlaw38.JournalLimits -/
namespace Go.Proofs.Ytlfliofoiafbjaa.ve
open Go Go.Vs Go.Ve Go.Fn Go.Proofs.Try
set_option linter.unusedVariables false
def F4 : VFE := { cfg := { N := 47, T := T, R := R, con := fun _ f => lkF f [(10, C10), (11, C11), (7, C7)], var := [0, 1, 2, 3, 4, 5, 6, 7, 8, 9, 10], res := [4], eqs := EQ, dat := [5, 6] }, keys := [0, 1, 4, 5, 6, 8, 10], bkeys := [] }
def S4 : Sig := { args := [.one (.i .i64), .one (.i .i64)], boxes := [], res := [.one .b], rbox := [], frz := [] }
def L4 : Nat → Option LoopRec := fun _ => none
set_option maxRecDepth 100000 in
theorem run4 : ∀ x, gives F4 L4 f4 S4 x = (fun x => bitextlaw38_JournalLimits x.1 x.2) x := by
  intro x
  kernel_rfl
theorem fn4 : FnCalls prog 4 (S4.F (fun x => bitextlaw38_JournalLimits x.1 x.2)) := fn_sig (F := F4) (tbl := L4) func4 (by kernel_rfl) mix (cok_list (l := [(10, C10), (11, C11), (7, C7)]) (tabsT rfl rfl) rfl (List.forall_mem_cons.2 ⟨G10, List.forall_mem_cons.2 ⟨G11, List.forall_mem_cons.2 ⟨G7, by simp⟩⟩⟩)) (by kernel_rfl) (by kernel_rfl) (by decide) (fun _ => by kernel_rfl) run4
def C4 : Con := S4.con (by kernel_rfl) (fun x => bitextlaw38_JournalLimits x.1 x.2)
theorem G4 : Good1 prog (4, C4) := good_of func4 (by kernel_rfl) (by kernel_rfl) fn4
end Go.Proofs.Ytlfliofoiafbjaa.ve
/- The law JournalLimits holds. -/
namespace Go.Proofs.Ytlfliofoiafbjaa.journalLimits
open Go Go.ChangeShapes Go.WideShapes Go.ChangeAt Go.RowKit Go.Vs Go.Ve Go.Fn Go.Proofs.Ytlfliofoiafbjaa.ve
set_option linter.unusedVariables false
theorem own : ownKnob Try.prog.godebug = none := by kernel_rfl
def B (H : Type) : Bulk H where
  one := Rows.uptoBulk
  all := Rows.uptoBulkAll
  str := fun _ => by simp only [Rows.uptoBulk]
  slice := fun _ _ => by simp only [Rows.uptoBulk]
  agg := fun _ => by simp only [Rows.uptoBulk]
  pos := fun d => by
    cases d with
    | lit l => cases l <;> simp only [Rows.uptoBulk] <;> omega
    | _ => simp only [Rows.uptoBulk] <;> omega
  nil := by simp only [Rows.uptoBulkAll]
  cons := fun _ _ => by simp only [Rows.uptoBulkAll]
theorem contract (H : Type) (enc : TypeId × Value → H) (W : World) (base : Nat) (args : Array Value) (ds gs : List (DataW H)) (before : List MemPlace)
    (hval : ∀ (j : Nat) t v, Try.f4.params[j]? = some t → args[j]? = some v → Value.okWide Try.prog W .any base t v)
    (hW : DataW.Whole enc Try.prog Try.f4.params.toList Rows.journalLimitsSpec.vars false W args.toList ds gs before) (hk : Rows.uptoSmall H (ds ++ gs) = true) :
    Calls Try.prog 4 args W fun e W' => ∃ v, e = .returned v ∧ Rows.journalLimitsSpec.post enc Try.prog Try.f4 false true false false W args v W' :=
  law_typed (cfg := F4.cfg.c) (l := S4.args) (n := 20) (m := 1048576) (ts := Try.f4.params.toList) (sp := Rows.journalLimitsSpec) (by kernel_rfl) fn4 (tabsT rfl rfl) rfl rfl (tb := 4) (by kernel_rfl) (by kernel_rfl)
    (by kernel_rfl) (by
      intro t ht
      exact List.all_eq_true.1 (by kernel_rfl : Try.f4.params.toList.all (fun t => plainT F4.cfg.c 20 t) = true) t ht) (by kernel_rfl)
    (by
      intro t ht
      have := List.all_eq_true.1 (by kernel_rfl : Try.f4.params.toList.all (fun t => Try.prog.readableRec t && Nat.blt t Try.prog.types.size) = true) t ht
      rw [Bool.and_eq_true, Nat.blt_eq] at this
      exact this) (B H) (Nat.le_trans (bulk_append (B H) ds gs) (of_decide_eq_true hk))
    (fun x hw hb => ⟨x, rfl, limits_holds x.1 x.2 hw.1 hw.2.1⟩)
    (fun ds h => by
      match ds, h with
      | [d1, d2], _ => rfl)
    hval hW
set_option maxRecDepth 100000 in
theorem lifted (os : Os) (started : os.Started) (H : Type) (enc : TypeId × Value → H) (F : Stop.Interp) :
    ReturnsInHanded {} Try.checked os 4 .any ((Rows.OpenSpec.upto Rows.journalLimitsSpec).pre6 enc Try.prog Try.f4 Rows.journalLimitsUptoRow.domain false) (((Rows.OpenSpec.upto Rows.journalLimitsSpec).at F).post enc Try.prog Try.f4 false true false false) := by
  refine returnsInHanded_of_cond (C := Try.checked) (s := Rows.OpenSpec.upto Rows.journalLimitsSpec) (k := Rows.uptoSmall) rfl own started (by kernel_rfl) Try.func4
    (OpenSpec.witness (enc := enc) (C := Try.checked) (s := Rows.OpenSpec.upto Rows.journalLimitsSpec) (k := Rows.uptoSmall) rfl false ⟨#[], #[.int .i64 0, .int .i64 0], []⟩ 8 (by kernel_rfl) (by kernel_rfl) (by kernel_rfl)
      (x := ([.lit (.int .i64 0), .lit (.int .i64 0)], [], [])) (by kernel_rfl) rfl (by kernel_rfl)) ?_
  intro W base args ds gs before hval hW _ hk _
  exact contract H enc W base args ds gs before hval hW hk
theorem over : Rows.journalLimitsUptoRow.holds Try.pinned (Rows.OpenSpec.upto Rows.journalLimitsSpec) :=
  OpenClaim.holds_of_cond 4 Try.f4 rfl rfl rfl rfl rfl rfl rfl ⟨rfl, rfl, rfl, rfl, rfl⟩ rfl rfl rfl rfl rfl (by kernel_rfl) Try.func4 (by kernel_rfl)
    (of_decide_eq_true (by kernel_rfl)) (by unfold Func.isWrapper; first | (rw [if_pos (by decide +kernel)]; kernel_rfl) | (rw [if_neg (by decide +kernel)]; exact ⟨rfl, rfl⟩))
    (fun os started H enc _ F => lifted os started H enc F)
theorem proved : Rows.JournalLimitsUptoSaid :=
  over
end Go.Proofs.Ytlfliofoiafbjaa.journalLimits
#print axioms Go.Proofs.Ytlfliofoiafbjaa.journalLimits.proved
