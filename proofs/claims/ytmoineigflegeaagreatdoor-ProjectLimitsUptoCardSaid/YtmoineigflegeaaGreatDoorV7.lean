/- The statement ProjectLimitsUptoCardSaid of the given program is proved here: for every input whose bulk is at most the bound of its row, the law returns true and changes nothing. Part 7 of 7. -/
import Derived.Test.YtmoineigflegeaaGreatDoorCards
import Derived.JoinedCond
import Derived.KernelRfl
import Derived.Test.YtmoineigflegeaaGreatDoorProg
import Derived.Shelf.Strings.Builder1
import Derived.WalkKit
import Derived.BigCall
import Derived.Lib.Bytealg
import Derived.Laws.Externs
import Derived.Test.YtmoineigflegeaaGreatDoorTie
import Derived.Deep.DeepHandedRow
import Derived.Test.YtmoineigflegeaaGreatDoorV6
namespace Go.Proofs.YtmoineigflegeaaGreatDoor.projectLimits
open Go
set_option maxRecDepth 100000
theorem andI {a b : Bool} (h1 : a = true) (h2 : b = true) : (a && b) = true := by rw [h1, h2]; rfl
theorem k1 : (Rows.projectLimitsUptoRow.wf (OpenSpec.ofChange ((Rows.OpenSpec.upto Rows.projectLimitsSpec).bare))) = true := by kernel_rfl
theorem k2 : (laidOutB Tryz.prog) = true := by kernel_rfl
theorem k3 : (mapsRowed Tryz.prog) = true := by kernel_rfl
theorem k4 : (Tryz.f4.params.all (Tryz.prog.readableRec ·)) = true := by kernel_rfl
theorem k5 : (namedTie Tryz.prog Rows.projectLimitsUptoRow.named ((Rows.OpenSpec.upto Rows.projectLimitsSpec).bare).vars) = true := by kernel_rfl
theorem k6 : ((Rows.projectLimitsUptoRow.stops == [])) = true := by kernel_rfl
theorem k7 : ((Tryz.prog.stops == [])) = true := by kernel_rfl
theorem k8 : ((Rows.projectLimitsUptoRow.knobs == [])) = true := by kernel_rfl
theorem k9 : ((Tryz.prog.stopKnobs == [])) = true := by kernel_rfl
theorem k10 : ((Rows.projectLimitsUptoRow.inPlace == Tryz.prog.inPlace 4)) = true := by kernel_rfl
theorem k11 : ((Rows.projectLimitsUptoRow.unfollowed == Tryz.prog.unfollowed 4)) = true := by kernel_rfl
theorem k12 : ((Rows.projectLimitsUptoRow.recurses == Tryz.prog.recurses 4)) = true := by kernel_rfl
theorem k13 : ((Rows.projectLimitsUptoRow.named == Tryz.prog.varsNamed 4)) = true := by kernel_rfl
theorem k14 : ((Rows.projectLimitsUptoRow.maps == (Tryz.f4.params.toList ++ ((Rows.OpenSpec.upto Rows.projectLimitsSpec).bare).plain.varTypes Tryz.prog).any (Tryz.prog.mapsRec ·))) = true := by kernel_rfl
theorem k15 : ((Rows.projectLimitsUptoRow.ifaces == (Tryz.f4.params.toList ++ ((Rows.OpenSpec.upto Rows.projectLimitsSpec).bare).plain.varTypes Tryz.prog).any (Tryz.prog.ifacesRec ·))) = true := by kernel_rfl
theorem k16 : ((Rows.projectLimitsUptoRow.mapsOut == Tryz.prog.mapsAmong Tryz.f4.resultTypes.toList)) = true := by kernel_rfl
theorem k17 : ((Rows.projectLimitsUptoRow.loops == (Tryz.f4.params.toList ++ ((Rows.OpenSpec.upto Rows.projectLimitsSpec).bare).plain.varTypes Tryz.prog).any (Tryz.prog.loopsFrom ·))) = true := by kernel_rfl
theorem k18 : ((Rows.projectLimitsUptoRow.wideKeys == (Tryz.f4.params.toList ++ ((Rows.OpenSpec.upto Rows.projectLimitsSpec).bare).plain.varTypes Tryz.prog ++ Tryz.f4.resultTypes.toList).any (Tryz.prog.wideKeysFrom ·))) = true := by kernel_rfl
theorem k19 : (((Rows.OpenSpec.upto Rows.projectLimitsSpec).bare).vars.all (Tryz.prog.varReadable ·)) = true := by kernel_rfl
theorem k20 : (Tryz.f4.resultTypes.all (fun t => Tryz.prog.readableRec t && decide (t < Tryz.prog.types.size))) = true := by kernel_rfl
theorem k21 : ((Rows.projectLimitsUptoRow.ifacesOut == Tryz.f4.resultTypes.toList.any (Tryz.prog.ifacesRec ·))) = true := by kernel_rfl
theorem k22 : ((Rows.projectLimitsUptoRow.loopsOut == Tryz.f4.resultTypes.toList.any (Tryz.prog.loopsFrom ·))) = true := by kernel_rfl
theorem k23 : ((Rows.projectLimitsUptoRow.plainKeys == Tryz.prog.plainKeys)) = true := by kernel_rfl
theorem k24 : (Rows.projectLimitsUptoRow.shortTexts.isNone) = true := by kernel_rfl
theorem k25 : (Tryz.prog.stopsHeard) = true := by kernel_rfl
theorem k26 : (Tryz.prog.mayEnter) = true := by kernel_rfl
theorem k27 : ((Rows.projectLimitsUptoRow.lifted == Tryz.prog.liftsFinal)) = true := by kernel_rfl
theorem k28 : ((Tryz.prog.make == some Rows.projectLimitsUptoRow.make)) = true := by kernel_rfl
theorem k29 : ((Rows.projectLimitsUptoRow.kinds == (if Rows.projectLimitsUptoRow.domain.isEmpty then [] else Tryz.f4.params.toList.map fun t => match Tryz.prog.underlying t with | some (.int k) => some k | _ => none))) = true := by kernel_rfl
theorem k30 : ((Rows.projectLimitsUptoRow.pinned == Rows.projectLimitsUptoRow.pinnedBy)) = true := by kernel_rfl
theorem k31 : ((Rows.projectLimitsUptoRow.veiled == (Tryz.f4.params.toList ++ ((Rows.OpenSpec.upto Rows.projectLimitsSpec).bare).plain.varTypes Tryz.prog ++ Tryz.f4.resultTypes.toList).any (Tryz.prog.veiledRec ·))) = true := by kernel_rfl
theorem k32 : (Rows.projectLimitsUptoRow.veiledFits Tryz.prog Tryz.f4.params.toList (Tryz.f4.params.toList ++ ((Rows.OpenSpec.upto Rows.projectLimitsSpec).bare).plain.varTypes Tryz.prog ++ Tryz.f4.resultTypes.toList)) = true := by kernel_rfl
theorem closed : joinedFacts Tryz.prog 4 Tryz.f4 ((Rows.OpenSpec.upto Rows.projectLimitsSpec).bare) Rows.projectLimitsUptoRow = true := (andI (andI (andI (andI (andI (andI (andI (andI (andI (andI (andI (andI (andI (andI (andI (andI (andI (andI (andI (andI (andI (andI (andI (andI (andI (andI (andI (andI (andI (andI (andI k1 k2) k3) k4) k5) k6) k7) k8) k9) k10) k11) k12) k13) k14) k15) k16) k17) k18) k19) k20) k21) k22) k23) k24) k25) k26) k27) k28) k29) k30) k31) k32)
theorem h1 : Tryz.pinned.checked.prog.funcNamed Rows.projectLimitsUptoRow.func = some 4 := by kernel_rfl
theorem h2 : Tryz.f4.isInstance Tryz.pinned.checked.prog Rows.projectLimitsUptoRow.origin Rows.projectLimitsUptoRow.targs := of_decide_eq_true (by kernel_rfl)
theorem h3 : Tryz.f4.isWrapper Tryz.pinned.checked.prog Rows.projectLimitsUptoRow.wrapper Rows.projectLimitsUptoRow.mainSum := by unfold Func.isWrapper; first | (rw [if_pos (by decide +kernel)]; kernel_rfl) | (rw [if_neg (by decide +kernel)]; exact ⟨rfl, rfl⟩)
end Go.Proofs.YtmoineigflegeaaGreatDoor.projectLimits
namespace Go.Proofs.YtmoineigflegeaaGreatDoor.ve
open Go Go.Vs Go.Ve Go.Fn Go.Proofs.Tryz
def T : List (TypeId × TI) := [(2, ⟨1, 8, .int .i64, (some [.int .i64 0])⟩),
 (3, ⟨1, 8, .int .i64, (some [.int .i64 0])⟩),
 (4, ⟨1, 1, .bool, (some [.bool false])⟩),
 (5, ⟨1, 1, .int .u8, (some [.int .u8 0])⟩),
 (9, ⟨1, 16, .str, (some [.str []])⟩),
 (23, ⟨1, 24, .slice 68, (some [.nil])⟩),
 (25, ⟨2, 32, .struct [(0, 3), (1, 23)], (some [.int .i64 0, .nil])⟩),
 (26, ⟨1, 8, .int .i64, (some [.int .i64 0])⟩),
 (29, ⟨1, 24, .slice 25, (some [.nil])⟩),
 (30, ⟨1, 24, .slice 55, (some [.nil])⟩),
 (32, ⟨3, 56, .struct [(0, 29), (1, 30), (2, 3)], (some [.nil, .nil, .int .i64 0])⟩),
 (36, ⟨1, 24, .slice 3, (some [.nil])⟩),
 (43, ⟨1, 24, .slice 96, (some [.nil])⟩),
 (46, ⟨1, 8, .map 3 51, (some [.nul .map])⟩),
 (49, ⟨1, 24, .slice 53, (some [.nil])⟩),
 (51, ⟨1, 24, .slice 107, (some [.nil])⟩),
 (53, ⟨2, 16, .struct [(0, 3), (1, 3)], (some [.int .i64 0, .int .i64 0])⟩),
 (55, ⟨10, 104, .struct [(0, 3), (1, 3), (2, 3), (3, 53), (5, 3), (6, 51), (7, 9), (8, 3), (9, 4)], (some [.int .i64 0, .int .i64 0, .int .i64 0, .int .i64 0, .int .i64 0, .int .i64 0, .nil, .str [], .int .i64 0, .bool false])⟩),
 (56, ⟨1, 8, .ptr 85, (some [.nul .ptr])⟩),
 (68, ⟨3, 40, .struct [(0, 4), (1, 9), (2, 9)], (some [.bool false, .str [], .str []])⟩),
 (77, ⟨1, 24, .slice 4, (some [.nil])⟩),
 (83, ⟨1, 8, .map 87 51, (some [.nul .map])⟩),
 (85, ⟨4, 64, .struct [(0, 32), (3, 83)], (some [.nil, .nil, .int .i64 0, .nul .map])⟩),
 (87, ⟨2, 16, .struct [(0, 3), (1, 3)], (some [.int .i64 0, .int .i64 0])⟩),
 (88, ⟨1, 8, .map 3 90, (some [.nul .map])⟩),
 (90, ⟨0, 0, .struct [], (some [])⟩),
 (91, ⟨32, 32, .array 32 5, (some [.int .u8 0, .int .u8 0, .int .u8 0, .int .u8 0, .int .u8 0, .int .u8 0, .int .u8 0, .int .u8 0, .int .u8 0, .int .u8 0, .int .u8 0, .int .u8 0, .int .u8 0, .int .u8 0, .int .u8 0, .int .u8 0, .int .u8 0, .int .u8 0, .int .u8 0, .int .u8 0, .int .u8 0, .int .u8 0, .int .u8 0, .int .u8 0, .int .u8 0, .int .u8 0, .int .u8 0, .int .u8 0, .int .u8 0, .int .u8 0, .int .u8 0, .int .u8 0])⟩),
 (93, ⟨34, 48, .struct [(0, 91), (32, 3), (33, 4)], (some [.int .u8 0, .int .u8 0, .int .u8 0, .int .u8 0, .int .u8 0, .int .u8 0, .int .u8 0, .int .u8 0, .int .u8 0, .int .u8 0, .int .u8 0, .int .u8 0, .int .u8 0, .int .u8 0, .int .u8 0, .int .u8 0, .int .u8 0, .int .u8 0, .int .u8 0, .int .u8 0, .int .u8 0, .int .u8 0, .int .u8 0, .int .u8 0, .int .u8 0, .int .u8 0, .int .u8 0, .int .u8 0, .int .u8 0, .int .u8 0, .int .u8 0, .int .u8 0, .int .i64 0, .bool false])⟩),
 (94, ⟨1, 24, .slice 93, (some [.nil])⟩),
 (96, ⟨3, 56, .struct [(0, 4), (1, 94), (2, 94)], (some [.bool false, .nil, .nil])⟩),
 (107, ⟨3, 32, .struct [(0, 3), (1, 9), (2, 3)], (some [.int .i64 0, .str [], .int .i64 0])⟩),
 (122, ⟨1, 24, .slice 5, (some [.nil])⟩),
 (185, ⟨3, 72, .struct [(0, 51), (1, 122), (2, 36)], (some [.nil, .nil, .nil])⟩),
 (193, ⟨1, 8, .ptr 185, (some [.nul .ptr])⟩),
 (212, ⟨1, 8, .map 3 4, (some [.nul .map])⟩),
 (213, ⟨1, 8, .map 3 3, (some [.nul .map])⟩),
 (252, ⟨24, 24, .array 24 5, (some [.int .u8 0, .int .u8 0, .int .u8 0, .int .u8 0, .int .u8 0, .int .u8 0, .int .u8 0, .int .u8 0, .int .u8 0, .int .u8 0, .int .u8 0, .int .u8 0, .int .u8 0, .int .u8 0, .int .u8 0, .int .u8 0, .int .u8 0, .int .u8 0, .int .u8 0, .int .u8 0, .int .u8 0, .int .u8 0, .int .u8 0, .int .u8 0])⟩),
 (253, ⟨1, 8, .int .u64, (some [.int .u64 0])⟩)]
def R : List (TypeId × Ty) := [(2, (.int .i64)),
 (3, (.int .i64)),
 (4, .bool),
 (5, (.int .u8)),
 (9, .str),
 (23, (.sl (.pair .bool (.pair .str .str)))),
 (25, (.pair (.int .i64) (.sl (.pair .bool (.pair .str .str))))),
 (26, (.int .i64)),
 (29, (.sl (.pair (.int .i64) (.sl (.pair .bool (.pair .str .str)))))),
 (30, (.sl (.pair (.int .i64) (.pair (.int .i64) (.pair (.int .i64) (.pair (.pair (.int .i64) (.int .i64)) (.pair (.int .i64) (.pair (.sl (.pair (.int .i64) (.pair .str (.int .i64)))) (.pair .str (.pair (.int .i64) .bool)))))))))),
 (32, (.pair (.sl (.pair (.int .i64) (.sl (.pair .bool (.pair .str .str))))) (.pair (.sl (.pair (.int .i64) (.pair (.int .i64) (.pair (.int .i64) (.pair (.pair (.int .i64) (.int .i64)) (.pair (.int .i64) (.pair (.sl (.pair (.int .i64) (.pair .str (.int .i64)))) (.pair .str (.pair (.int .i64) .bool))))))))) (.int .i64)))),
 (36, (.sl (.int .i64))),
 (43, (.sl (.pair .bool (.pair (.sl (.pair (.pair (.int .u8) (.pair (.int .u8) (.pair (.int .u8) (.pair (.int .u8) (.pair (.int .u8) (.pair (.int .u8) (.pair (.int .u8) (.pair (.int .u8) (.pair (.int .u8) (.pair (.int .u8) (.pair (.int .u8) (.pair (.int .u8) (.pair (.int .u8) (.pair (.int .u8) (.pair (.int .u8) (.pair (.int .u8) (.pair (.int .u8) (.pair (.int .u8) (.pair (.int .u8) (.pair (.int .u8) (.pair (.int .u8) (.pair (.int .u8) (.pair (.int .u8) (.pair (.int .u8) (.pair (.int .u8) (.pair (.int .u8) (.pair (.int .u8) (.pair (.int .u8) (.pair (.int .u8) (.pair (.int .u8) (.pair (.int .u8) (.int .u8)))))))))))))))))))))))))))))))) (.pair (.int .i64) .bool))) (.sl (.pair (.pair (.int .u8) (.pair (.int .u8) (.pair (.int .u8) (.pair (.int .u8) (.pair (.int .u8) (.pair (.int .u8) (.pair (.int .u8) (.pair (.int .u8) (.pair (.int .u8) (.pair (.int .u8) (.pair (.int .u8) (.pair (.int .u8) (.pair (.int .u8) (.pair (.int .u8) (.pair (.int .u8) (.pair (.int .u8) (.pair (.int .u8) (.pair (.int .u8) (.pair (.int .u8) (.pair (.int .u8) (.pair (.int .u8) (.pair (.int .u8) (.pair (.int .u8) (.pair (.int .u8) (.pair (.int .u8) (.pair (.int .u8) (.pair (.int .u8) (.pair (.int .u8) (.pair (.int .u8) (.pair (.int .u8) (.pair (.int .u8) (.int .u8)))))))))))))))))))))))))))))))) (.pair (.int .i64) .bool))))))),
 (46, (.ent false (.int .i64) (.sl (.pair (.int .i64) (.pair .str (.int .i64)))))),
 (49, (.sl (.pair (.int .i64) (.int .i64)))),
 (51, (.sl (.pair (.int .i64) (.pair .str (.int .i64))))),
 (53, (.pair (.int .i64) (.int .i64))),
 (55, (.pair (.int .i64) (.pair (.int .i64) (.pair (.int .i64) (.pair (.pair (.int .i64) (.int .i64)) (.pair (.int .i64) (.pair (.sl (.pair (.int .i64) (.pair .str (.int .i64)))) (.pair .str (.pair (.int .i64) .bool))))))))),
 (68, (.pair .bool (.pair .str .str))),
 (77, (.sl .bool)),
 (83, (.ent false (.pair (.int .i64) (.int .i64)) (.sl (.pair (.int .i64) (.pair .str (.int .i64)))))),
 (85, (.pair (.pair (.sl (.pair (.int .i64) (.sl (.pair .bool (.pair .str .str))))) (.pair (.sl (.pair (.int .i64) (.pair (.int .i64) (.pair (.int .i64) (.pair (.pair (.int .i64) (.int .i64)) (.pair (.int .i64) (.pair (.sl (.pair (.int .i64) (.pair .str (.int .i64)))) (.pair .str (.pair (.int .i64) .bool))))))))) (.int .i64))) (.sl (.ent false (.pair (.int .i64) (.int .i64)) (.sl (.pair (.int .i64) (.pair .str (.int .i64)))))))),
 (87, (.pair (.int .i64) (.int .i64))),
 (88, (.set (.int .i64))),
 (91, (.pair (.int .u8) (.pair (.int .u8) (.pair (.int .u8) (.pair (.int .u8) (.pair (.int .u8) (.pair (.int .u8) (.pair (.int .u8) (.pair (.int .u8) (.pair (.int .u8) (.pair (.int .u8) (.pair (.int .u8) (.pair (.int .u8) (.pair (.int .u8) (.pair (.int .u8) (.pair (.int .u8) (.pair (.int .u8) (.pair (.int .u8) (.pair (.int .u8) (.pair (.int .u8) (.pair (.int .u8) (.pair (.int .u8) (.pair (.int .u8) (.pair (.int .u8) (.pair (.int .u8) (.pair (.int .u8) (.pair (.int .u8) (.pair (.int .u8) (.pair (.int .u8) (.pair (.int .u8) (.pair (.int .u8) (.pair (.int .u8) (.int .u8))))))))))))))))))))))))))))))))),
 (93, (.pair (.pair (.int .u8) (.pair (.int .u8) (.pair (.int .u8) (.pair (.int .u8) (.pair (.int .u8) (.pair (.int .u8) (.pair (.int .u8) (.pair (.int .u8) (.pair (.int .u8) (.pair (.int .u8) (.pair (.int .u8) (.pair (.int .u8) (.pair (.int .u8) (.pair (.int .u8) (.pair (.int .u8) (.pair (.int .u8) (.pair (.int .u8) (.pair (.int .u8) (.pair (.int .u8) (.pair (.int .u8) (.pair (.int .u8) (.pair (.int .u8) (.pair (.int .u8) (.pair (.int .u8) (.pair (.int .u8) (.pair (.int .u8) (.pair (.int .u8) (.pair (.int .u8) (.pair (.int .u8) (.pair (.int .u8) (.pair (.int .u8) (.int .u8)))))))))))))))))))))))))))))))) (.pair (.int .i64) .bool))),
 (94, (.sl (.pair (.pair (.int .u8) (.pair (.int .u8) (.pair (.int .u8) (.pair (.int .u8) (.pair (.int .u8) (.pair (.int .u8) (.pair (.int .u8) (.pair (.int .u8) (.pair (.int .u8) (.pair (.int .u8) (.pair (.int .u8) (.pair (.int .u8) (.pair (.int .u8) (.pair (.int .u8) (.pair (.int .u8) (.pair (.int .u8) (.pair (.int .u8) (.pair (.int .u8) (.pair (.int .u8) (.pair (.int .u8) (.pair (.int .u8) (.pair (.int .u8) (.pair (.int .u8) (.pair (.int .u8) (.pair (.int .u8) (.pair (.int .u8) (.pair (.int .u8) (.pair (.int .u8) (.pair (.int .u8) (.pair (.int .u8) (.pair (.int .u8) (.int .u8)))))))))))))))))))))))))))))))) (.pair (.int .i64) .bool)))),
 (96, (.pair .bool (.pair (.sl (.pair (.pair (.int .u8) (.pair (.int .u8) (.pair (.int .u8) (.pair (.int .u8) (.pair (.int .u8) (.pair (.int .u8) (.pair (.int .u8) (.pair (.int .u8) (.pair (.int .u8) (.pair (.int .u8) (.pair (.int .u8) (.pair (.int .u8) (.pair (.int .u8) (.pair (.int .u8) (.pair (.int .u8) (.pair (.int .u8) (.pair (.int .u8) (.pair (.int .u8) (.pair (.int .u8) (.pair (.int .u8) (.pair (.int .u8) (.pair (.int .u8) (.pair (.int .u8) (.pair (.int .u8) (.pair (.int .u8) (.pair (.int .u8) (.pair (.int .u8) (.pair (.int .u8) (.pair (.int .u8) (.pair (.int .u8) (.pair (.int .u8) (.int .u8)))))))))))))))))))))))))))))))) (.pair (.int .i64) .bool))) (.sl (.pair (.pair (.int .u8) (.pair (.int .u8) (.pair (.int .u8) (.pair (.int .u8) (.pair (.int .u8) (.pair (.int .u8) (.pair (.int .u8) (.pair (.int .u8) (.pair (.int .u8) (.pair (.int .u8) (.pair (.int .u8) (.pair (.int .u8) (.pair (.int .u8) (.pair (.int .u8) (.pair (.int .u8) (.pair (.int .u8) (.pair (.int .u8) (.pair (.int .u8) (.pair (.int .u8) (.pair (.int .u8) (.pair (.int .u8) (.pair (.int .u8) (.pair (.int .u8) (.pair (.int .u8) (.pair (.int .u8) (.pair (.int .u8) (.pair (.int .u8) (.pair (.int .u8) (.pair (.int .u8) (.pair (.int .u8) (.pair (.int .u8) (.int .u8)))))))))))))))))))))))))))))))) (.pair (.int .i64) .bool)))))),
 (107, (.pair (.int .i64) (.pair .str (.int .i64)))),
 (122, (.sl (.int .u8))),
 (185, (.pair (.sl (.pair (.int .i64) (.pair .str (.int .i64)))) (.pair (.sl (.int .u8)) (.sl (.int .i64))))),
 (212, (.ent false (.int .i64) .bool)),
 (213, (.ent false (.int .i64) (.int .i64))),
 (252, (.pair (.int .u8) (.pair (.int .u8) (.pair (.int .u8) (.pair (.int .u8) (.pair (.int .u8) (.pair (.int .u8) (.pair (.int .u8) (.pair (.int .u8) (.pair (.int .u8) (.pair (.int .u8) (.pair (.int .u8) (.pair (.int .u8) (.pair (.int .u8) (.pair (.int .u8) (.pair (.int .u8) (.pair (.int .u8) (.pair (.int .u8) (.pair (.int .u8) (.pair (.int .u8) (.pair (.int .u8) (.pair (.int .u8) (.pair (.int .u8) (.pair (.int .u8) (.int .u8))))))))))))))))))))))))),
 (253, (.int .u64))]
def AllP {α : Type} (p : α → Prop) : List α → Prop
 | [] => True
 | a :: r => p a ∧ AllP p r
theorem AllP.mem {α : Type} {p : α → Prop} : ∀ {l : List α}, AllP p l → ∀ x ∈ l, p x
 | _ :: _, h, _, .head _ => h.1
 | _ :: _, h, _, .tail _ hx => AllP.mem h.2 _ hx
set_option maxRecDepth 100000 in
theorem T_ok : AllP (fun x => tiOf prog x.1 = some x.2) T := ⟨by show tiOf prog _ = some _; kernel_rfl, by show tiOf prog _ = some _; kernel_rfl, by show tiOf prog _ = some _; kernel_rfl, by show tiOf prog _ = some _; kernel_rfl, by show tiOf prog _ = some _; kernel_rfl, by show tiOf prog _ = some _; kernel_rfl, by show tiOf prog _ = some _; kernel_rfl, by show tiOf prog _ = some _; kernel_rfl, by show tiOf prog _ = some _; kernel_rfl, by show tiOf prog _ = some _; kernel_rfl, by show tiOf prog _ = some _; kernel_rfl, by show tiOf prog _ = some _; kernel_rfl, by show tiOf prog _ = some _; kernel_rfl, by show tiOf prog _ = some _; kernel_rfl, by show tiOf prog _ = some _; kernel_rfl, by show tiOf prog _ = some _; kernel_rfl, by show tiOf prog _ = some _; kernel_rfl, by show tiOf prog _ = some _; kernel_rfl, by show tiOf prog _ = some _; kernel_rfl, by show tiOf prog _ = some _; kernel_rfl, by show tiOf prog _ = some _; kernel_rfl, by show tiOf prog _ = some _; kernel_rfl, by show tiOf prog _ = some _; kernel_rfl, by show tiOf prog _ = some _; kernel_rfl, by show tiOf prog _ = some _; kernel_rfl, by show tiOf prog _ = some _; kernel_rfl, by show tiOf prog _ = some _; kernel_rfl, by show tiOf prog _ = some _; kernel_rfl, by show tiOf prog _ = some _; kernel_rfl, by show tiOf prog _ = some _; kernel_rfl, by show tiOf prog _ = some _; kernel_rfl, by show tiOf prog _ = some _; kernel_rfl, by show tiOf prog _ = some _; kernel_rfl, by show tiOf prog _ = some _; kernel_rfl, by show tiOf prog _ = some _; kernel_rfl, by show tiOf prog _ = some _; kernel_rfl, by show tiOf prog _ = some _; kernel_rfl, by show tiOf prog _ = some _; kernel_rfl, trivial⟩
theorem lk_mem {α : Type} {t : Nat} {v : α} : ∀ {l : List (Nat × α)}, lk t l = some v → (t, v) ∈ l
 | (u, w) :: l, h => by
  unfold lk at h
  split at h
  ·rename_i e; cases h; subst e; simp
  ·exact List.mem_cons_of_mem _ (lk_mem h)
def EQ : List (TypeId × List Sc) := [(53, [.int .i64, .int .i64]), (68, [.bool, .str, .str]), (87, [.int .i64, .int .i64]), (107, [.int .i64, .str, .int .i64])]
theorem EQ_ok : AllP (fun x => EqOk prog x.1 x.2) EQ := ⟨eqOk_flat (by kernel_rfl) (by kernel_rfl) (by kernel_rfl) (by kernel_rfl), eqOk_flat (by kernel_rfl) (by kernel_rfl) (by kernel_rfl) (by kernel_rfl), eqOk_flat (by kernel_rfl) (by kernel_rfl) (by kernel_rfl) (by kernel_rfl), eqOk_flat (by kernel_rfl) (by kernel_rfl) (by kernel_rfl) (by kernel_rfl), trivial⟩
theorem tabsT {cfg : Cfg} (h : cfg.T = T) (he : (cfg.eqs == [] || cfg.eqs == EQ) = true) : Tabs prog cfg :=
 ⟨fun t i hi => AllP.mem T_ok (t, i) (lk_mem (by rw [← h]; exact hi)), fun t sh ht => by
  rw [Bool.or_eq_true, beq_iff_eq, beq_iff_eq] at he
  rcases he with he | he
  ·rw [he] at ht; cases ht
  ·rw [he] at ht; exact AllP.mem EQ_ok (t, sh) (lk_mem ht)⟩
theorem mix : prog.follows .mixedOrders = true := by kernel_rfl
end Go.Proofs.YtmoineigflegeaaGreatDoor.ve
namespace Go.Proofs.YtmoineigflegeaaGreatDoor.ve
open Go Go.Vs Go.Ve Go.Fn Go.Proofs.Tryz
set_option linter.unusedVariables false
def F56 : VFE := { cfg := { N := 103, T := T, R := R, con := fun _ f => lkF f [], var := [0, 1, 2, 3, 4, 5, 6, 7, 8], res := [4, 5, 6], eqs := EQ }, keys := [0, 1, 4, 5, 6, 7, 8, 20, 46, 50, 58, 82], bkeys := [] }
def S56 : Sig := { args := [.one .s, .one (.i .i64)], boxes := [], res := [.one (.i .i64), .one .b, .one .b], rbox := [], frz := [] }
def L56 : Nat → Option LoopRec := fun n => match n with
 | 0 => some { head := { live := [0, 7, 8], lbox := [], vs := [.slot 8 (.i .i64)] }, exits := [(.exit 0, { live := [0, 7, 8], lbox := [], vs := [.slot 8 (.i .i64)] })] }
 | 1 => some { head := { live := [0, 7, 8], lbox := [], vs := [.slot 8 (.i .i64)] }, exits := [(.exit 2, { live := [0, 7, 8], lbox := [], vs := [.slot 8 (.i .i64)] })] }
 | _ => none
set_option maxRecDepth 100000 in
theorem run56 : ∀ x, gives F56 L56 f56 S56 x = (fun x => bitextref7_field x.1 x.2) x := by
 intro x
 kernel_rfl
theorem fn56 : FnCalls prog 56 (S56.F (fun x => bitextref7_field x.1 x.2)) := fn_sig (F := F56) (tbl := L56) func56 (by kernel_rfl) mix (cok_list (l := []) (tabsT rfl rfl) rfl (by simp)) (by kernel_rfl) (by kernel_rfl) (by decide) (fun _ => by kernel_rfl) run56
def C56 : Con := S56.con (by kernel_rfl) (fun x => bitextref7_field x.1 x.2)
theorem G56 : Good1 prog (56, C56) := good_of func56 (by kernel_rfl) (by kernel_rfl) fn56
end Go.Proofs.YtmoineigflegeaaGreatDoor.ve
namespace Go.Proofs
open Go.Shelf
def Tryz.lays169_ren : Go.Shelf.Ren := ⟨fun | 169 => 59 | n => n, fun | 70 => 121 | 9 => 9 | 0 => 0 | 72 => 124 | 37 => 122 | 127 => 146 | 3 => 3 | 5 => 5 | n => n, fun | n => n⟩
theorem Tryz.lays169 : Go.Proofs.Lays.n169 Tryz.prog Tryz.lays169_ren := {
 mixed := by kernel_rfl
 f169 := Tryz.func59.trans (congrArg some (by kernel_rfl))
 t0 := Tryz.underlying0
 a0 := Tryz.isAgg0
 z0 := Tryz.sizeOf0
 v0 := Tryz.zeroValue0
 t3 := Tryz.underlying3
 a3 := Tryz.isAgg3
 z3 := Tryz.sizeOf3
 v3 := Tryz.zeroValue3
 t9 := Tryz.underlying9
 a9 := Tryz.isAgg9
 z9 := Tryz.sizeOf9
 v9 := Tryz.zeroValue9
 t37 := Tryz.underlying122
 a37 := Tryz.isAgg122
 z37 := Tryz.sizeOf122
 v37 := Tryz.zeroValue122
 t70 := Tryz.underlying121
 a70 := Tryz.isAgg121
 z70 := Tryz.sizeOf121
 v70 := Tryz.zeroValue121
 t72 := Tryz.underlying124
 a72 := Tryz.isAgg124
 z72 := Tryz.sizeOf124
 v72 := Tryz.zeroValue124
 t127 := Tryz.underlying146
 a127 := Tryz.isAgg146
 z127 := Tryz.sizeOf146
 v127 := Tryz.zeroValue146 }
theorem Tryz.Builder_Extra_169 : Builder.Extra Tryz.prog Tryz.lays169_ren := {
 sizeBuilder := by kernel_rfl
 liesBuilder := by kernel_rfl
 t5 := Tryz.underlying5
 a5 := Tryz.isAgg5
 z5 := Tryz.sizeOf5
 v5 := Tryz.zeroValue5
 infoByte := by kernel_rfl
 cellsByte := by kernel_rfl
 sizeByte := by kernel_rfl
 neB5 := by decide }
open Go.RowKit in
theorem Tryz.Builder_String (B b : Nat) (l : List UInt8) (w : World) (h : Lib.IsBuilder 124 5 B b (Lib.byteCells l) w) (h0 : l ≠ []) :
  Calls Tryz.prog 59 #[.pointer (some ⟨b, 0, none⟩)] w fun e w' => e = .returned (.string ⟨l.toArray⟩) ∧ Below B w w' := Any.Builder_String Tryz.lays169 Tryz.Builder_Extra_169 B b l w h h0
open Go.RowKit in
theorem Tryz.Builder_String_empty (B b : Nat) (w : World) (h : Lib.IsBuilder 124 5 B b [] w) (hBw : B ≤ w.heap.size) :
  Calls Tryz.prog 59 #[.pointer (some ⟨b, 0, none⟩)] w fun e w' => e = .returned (.string ⟨#[]⟩) ∧ Below B w w' := Any.Builder_String_empty Tryz.lays169 Tryz.Builder_Extra_169 B b w h hBw
open Go.RowKit in
theorem Tryz.Builder_String_any (B b : Nat) (l : List UInt8) (w : World) (h : Lib.IsBuilder 124 5 B b (Lib.byteCells l) w) (hBw : B ≤ w.heap.size) :
  Calls Tryz.prog 59 #[.pointer (some ⟨b, 0, none⟩)] w fun e w' => e = .returned (.string ⟨l.toArray⟩) ∧ Below B w w' := Any.Builder_String_any Tryz.lays169 Tryz.Builder_Extra_169 B b l w h hBw
end Go.Proofs
set_option linter.unusedVariables false
namespace Go.Proofs.YtmoineigflegeaaGreatDoor.vx
open Go Go.RowKit Go.Proofs
theorem sizeBuilder : (Tryz.prog.info? 124).map (·.size) = some 2 := by kernel_rfl
theorem liesBuilder : liesAt Tryz.prog Tryz.prog.depth 124 (2 / Tryz.prog.cellsOf 124) 0 124 1 = true := by kernel_rfl
set_option maxHeartbeats 1000000 in
set_option maxRecDepth 100000 in
theorem copyCheck_used (b : Nat) (w : World) (h0 : w.cell? ⟨b, 0, none⟩ = some (.pointer (some ⟨b, 0, none⟩))) :
  Calls Tryz.prog 83 #[.pointer (some ⟨b, 0, none⟩)] w fun e w' => e = .returned (.tuple #[]) ∧ w' = w := by
 obtain ⟨j, hj, _⟩ := Option.map_eq_some_iff.1 sizeBuilder
 go_enter Tryz.func83, Tryz.ntmps83
 go_wp2
 rw [Lib.run_neq_ptr_same w _ Tryz.underlying121 hj]
 go_wp2
 go_end0
 exact ⟨rfl, rfl⟩
set_option maxHeartbeats 1000000 in
set_option maxRecDepth 100000 in
theorem copyCheck_fresh (b : Nat) (w : World) (h0 : w.cell? ⟨b, 0, none⟩ = some (.pointer none)) (hsh : w.shape? b = some (124, 2)) (hfz : w.frozen? ⟨b, 0, none⟩ = false) :
  Calls Tryz.prog 83 #[.pointer (some ⟨b, 0, none⟩)] w fun e w' => e = .returned (.tuple #[]) ∧ w' = w.setCell ⟨b, 0, none⟩ (.pointer (some ⟨b, 0, none⟩)) := by
 obtain ⟨j, hj, hjs⟩ := Option.map_eq_some_iff.1 sizeBuilder
 go_enter Tryz.func83, Tryz.ntmps83
 go_wp2
 rw [Lib.run_to_unsafe w ⟨b, 0, none⟩ Tryz.underlying121 Tryz.underlying178 hj (by rw [hjs]; decide) hsh (Nat.zero_lt_succ 1)]
 simp only [Result.andThen]
 rw [Oper.upon_value]
 go_wp2
 rw [run_callFunc_extern Tryz.func115 (by kernel_rfl) (by kernel_rfl) (by kernel_rfl) (e := Extern.AbiNoEscape.same) (by kernel_rfl)]
 rw [Lib.run_noEscape]
 simp only [Result.andThen]
 rw [Oper.upon_value]
 go_wp2
 rw [Lib.run_from_unsafe w ⟨b, 0, none⟩ Tryz.underlying178 Tryz.underlying121 hj hsh liesBuilder]
 simp only [Result.andThen]
 rw [Oper.upon_value]
 go_wp2
 go_end0
 exact ⟨rfl, rfl⟩
theorem copyCheck (B b : Nat) (bs : List Value) (w : World) (h : Lib.IsBuilder 124 5 B b bs w) :
  Calls Tryz.prog 83 #[.pointer (some ⟨b, 0, none⟩)] w fun e w' => e = .returned (.tuple #[]) ∧ (Lib.BuilderAt 124 5 B b (.pointer (some ⟨b, 0, none⟩)) bs w' ∧ Below B w w') := by
 rcases h with h | h
 ·refine (copyCheck_fresh b w h.cell0 h.shape h.frozen0).mono ?_
  rintro e w' ⟨rfl, rfl⟩
  exact ⟨rfl, h.used _, (Below.refl B w).setCell (p := ⟨b, 0, none⟩) h.1 _⟩
 ·refine (copyCheck_used b w h.cell0).mono ?_
  rintro e w' ⟨rfl, rfl⟩
  exact ⟨rfl, h, Below.refl B _⟩
theorem infoByte : (Tryz.prog.info? 5).map (fun i => (i.zero, i.size, i.bytes)) = some (some (.int .u8 0), 1, 1) := by kernel_rfl
set_option maxHeartbeats 2000000 in
set_option maxRecDepth 100000 in
theorem writeString (B b : Nat) (bs : List Value) (s : ByteArray) (w : World) (h : Lib.IsBuilder 124 5 B b bs w) (hlen : bs.length + s.size ≤ 140737488355328) (hBw : B ≤ w.heap.size) :
  Calls Tryz.prog 58 #[.pointer (some ⟨b, 0, none⟩), .string s] w fun e w' => e = .returned (.tuple #[.int .i64 s.size, .nilIface]) ∧ (Lib.BuilderAt 124 5 B b (.pointer (some ⟨b, 0, none⟩)) (bs ++ Lib.strCells s) w' ∧ Below B w w') := by
 obtain ⟨i0, hi, hz0, hz1, hz2⟩ := info_parts infoByte
 go_enter Tryz.func58, Tryz.ntmps58
 go_wp2_with (go_at_call 83; refine (copyCheck B b bs _ h).mono ?_)
 rintro e w1 ⟨rfl, h1, hb1⟩
 obtain ⟨hB, v, hbk, hown, hne⟩ := h1
 have c0 : w1.cell? ⟨b, 0, none⟩ = some (.pointer (some ⟨b, 0, none⟩)) := by rw [Lib.cell_of_heap hbk]; rfl
 have c1 : w1.cell? ⟨b, 1, none⟩ = some v := by rw [Lib.cell_of_heap hbk]; rfl
 go_wp2_with (at_builtin; refine Lib.wpList_append_own_string _ rfl _ _ 122 9 rfl B 5 i0 Tryz.underlying122 Tryz.underlying9 hi hz0 hz1 hz2 _ _ _ rfl hown s rfl ?c3 ?c4 ?c5 ?_)
 case c3 => unfold maxLen; omega
 case c4 => omega
 case c5 => have := hb1.size; omega
 intro v' w2 hown' hgrow _
 have hlt : b < w1.heap.size := by
  rcases Nat.lt_or_ge b w1.heap.size with h' | h'
  ·exact h'
  ·simp [Array.getElem?_eq_none h'] at hbk
 have hb2 : w2.heap[b]? = some (.cells #[.pointer (some ⟨b, 0, none⟩), v] 124 (0, 0)) := by
  rw [hgrow.block b hlt (fun e => hne e.symm)]
  exact hbk
 have d0 : w2.cell? ⟨b, 0, none⟩ = some (.pointer (some ⟨b, 0, none⟩)) := by rw [Lib.cell_of_heap hb2]; rfl
 have d1 : w2.cell? ⟨b, 1, none⟩ = some v := by rw [Lib.cell_of_heap hb2]; rfl
 have f1 : w2.frozen? ⟨b, 1, none⟩ = false := Lib.frozen_of_heap hb2 1
 obtain ⟨ao, n', cap, rfl⟩ : ∃ ao n' cap, v' = .slice ao n' cap := by
  rcases hown'.2 with ⟨hv, _⟩ | ⟨g, cap, cur, hv, _⟩
  ·exact ⟨_, _, _, hv⟩
  ·exact ⟨_, _, _, hv⟩
 go_wp2
 go_ret2
 refine ⟨rfl, ?_, ?_⟩
 ·exact Lib.BuilderAt.put (T := 124) (e := 5) hB hb2 (bs' := bs ++ Lib.strCells s) (by simpa [Lib.strCells_length] using hown') (by decide)
 ·exact (hb1.grown hgrow (by have := hb1.size; omega) (fun k hk => (hown.lt k hk).1)).setCell (p := ⟨b, 1, none⟩) hB _
end Go.Proofs.YtmoineigflegeaaGreatDoor.vx
set_option linter.unusedVariables false
namespace Go.Proofs.YtmoineigflegeaaGreatDoor.vx
open Go Go.RowKit Go.Proofs
def joinTo (g : Nat → List UInt8) : Nat → List UInt8
 | 0 => []
 | k + 1 => joinTo g k ++ g k
theorem joinTo_le (g : Nat → List UInt8) : ∀ {a b : Nat}, a ≤ b → (joinTo g a).length ≤ (joinTo g b).length := by
 intro a b h
 induction h with
 | refl => exact Nat.le_refl _
 | step _ ih => simp only [joinTo, List.length_append]; omega
theorem builderAt_alloc {T e : TypeId} {B b : Nat} {p : Value} {bs : List Value} {w : World} (h : Lib.BuilderAt T e B b p bs w) (o : Obj) : Lib.BuilderAt T e B b p bs (w.alloc o) := by
 have hlt := h.lt
 obtain ⟨hB, v, hb, hown, hne⟩ := h
 exact ⟨hB, v, (Lib.alloc_old w o b hlt).trans hb, hown.alloc o, hne⟩
theorem isBuilder_alloc {T e : TypeId} {B b : Nat} {bs : List Value} {w : World} (h : Lib.IsBuilder T e B b bs w) (o : Obj) : Lib.IsBuilder T e B b bs (w.alloc o) :=
 h.elim (fun h => .inl (builderAt_alloc h o)) (fun h => .inr (builderAt_alloc h o))
set_option maxHeartbeats 2000000 in
set_option maxRecDepth 100000 in
theorem bytes_walk (n : Int) (ad : Addr) (len cap : Nat) (hsp : ad.spot = none) (u : Nat → Bool) (ky g : Nat → List UInt8) (w : World) (hlc : len ≤ cap) (hln : len < 4611686018427387904)
  (h0 : ∀ k, k < len → w.cell? ⟨ad.block, ad.off + k * 3, none⟩ = some (.bool (u k))) (h1 : ∀ k, k < len → w.cell? ⟨ad.block, ad.off + k * 3 + 1, none⟩ = some (.string ⟨(ky k).toArray⟩)) (h2 : ∀ k, k < len → w.cell? ⟨ad.block, ad.off + k * 3 + 2, none⟩ = some (.string ⟨(g k).toArray⟩))
  (hb : ad.block < w.heap.size) (hbig : (joinTo g len).length ≤ 140737488355328) :
  Calls Tryz.prog 28 #[.agg #[.int .i64 n, .slice (some ad) len cap]] w fun e w' => e = .returned (.string ⟨(joinTo g len).toArray⟩) ∧ Below w.heap.size w w' := by
 obtain ⟨bl, off, sp⟩ := ad
 subst hsp
 go_enter Tryz.func28, Tryz.ntmps28
 go_wp2
 go_loopw [9] (fun i wr => ∃ k : Nat, k ≤ len ∧ i = .int .i64 k ∧ Lib.IsBuilder 124 5 (w.heap.size + 1) (w.heap.size + 1) (Lib.byteCells (joinTo g k)) wr ∧ Below w.heap.size w wr ∧ w.heap.size + 1 < wr.heap.size) (fun i _ => len - (intOf i).toNat)
 case atStart =>
  have hf := Lib.fresh_isBuilder 124 5 (w.alloc (.cells #[.int .i64 n, .slice (some ⟨bl, off, none⟩) len cap] 25))
  have e1 : (w.alloc (.cells #[.int .i64 n, .slice (some ⟨bl, off, none⟩) len cap] 25)).heap.size = w.heap.size + 1 := by simp
  rw [e1] at hf
  exact ⟨0, Nat.zero_le _, rfl, hf, ((Below.refl _ w).alloc (Nat.le_refl _) _).alloc (by simp) _, by simp⟩
 case round =>
  obtain ⟨k, hk, rfl, hI, hbw, hsz⟩ := hrel
  by_cases hlt : k < len
  ·have c0 := (hbw.cell (p := ⟨bl, off + k * 3, none⟩) hb).trans (h0 k hlt)
   have c1 := (hbw.cell (p := ⟨bl, off + k * 3 + 1, none⟩) hb).trans (h1 k hlt)
   have c2 := (hbw.cell (p := ⟨bl, off + k * 3 + 2, none⟩) hb).trans (h2 k hlt)
   have hI2 := isBuilder_alloc hI (.cells #[.bool (u k), .string ⟨(ky k).toArray⟩, .string ⟨(g k).toArray⟩] 68)
   have hl := joinTo_le g (show k + 1 ≤ len by omega)
   simp only [joinTo, List.length_append] at hl
   go_wp2_with (go_at_call 58; refine (writeString (w.heap.size + 1) (w.heap.size + 1) _ _ _ hI2 (by
    have e2 : (⟨(g k).toArray⟩ : ByteArray).size = (g k).length := by rw [Lib.size_eq]
    rw [Lib.byteCells_length, e2]
    omega) (Nat.le_trans (Nat.le_of_lt hsz) (by simp))).mono ?_)
   rintro e W1 ⟨rfl, hW1, b1⟩
   have hW2 : Lib.IsBuilder 124 5 (w.heap.size + 1) (w.heap.size + 1) (Lib.byteCells (joinTo g (k + 1))) W1 := by
    rw [Lib.strCells_eq, ← Lib.byteCells_append] at hW1
    exact Or.inr hW1
   have hb1 : Below w.heap.size w W1 := (hbw.alloc (by omega) _).trans (b1.mono (Nat.le_succ _))
   have hs1 : w.heap.size + 1 < W1.heap.size := by have := b1.size; simp at this; omega
   go_wp2
   go_roundw
   case rel => exact ⟨k + 1, hlt, by go_num, hW2, hb1, hs1⟩
   case measure => simp [intOf]; omega
  ·obtain rfl : k = len := by omega
   go_wp2_with (go_at_call 59; refine (Tryz.Builder_String_any (w.heap.size + 1) (w.heap.size + 1) (joinTo g k) _ hI (by omega)).mono ?_)
   rintro e W1 ⟨rfl, b1⟩
   go_wp2
   go_ret
   exact ⟨rfl, hbw.trans (b1.mono (Nat.le_succ _))⟩
end Go.Proofs.YtmoineigflegeaaGreatDoor.vx
set_option linter.unusedVariables false
namespace Go.Proofs.YtmoineigflegeaaGreatDoor.vx
open Go Go.Vs Go.RowKit Go.Proofs
def parts3 : List (List D) → Option (List (Bool × List UInt8 × List UInt8))
 | [] => some []
 | [.bool u, .str k, .str g] :: r => match parts3 r with | some l => some ((u, k, g) :: l) | none => none
 | _ :: _ => none
def joinG (l : List (Bool × List UInt8 × List UInt8)) : List UInt8 := l.flatMap fun p => p.2.2
def A28 : AFun
 | [.one _], _ => none
 | [.agg [.d (.int .i64 _), .d (.sl 3 (x :: xs))]], [] => match parts3 (x :: xs) with
  | some l => match Nat.ble l.length 4611686018427387903, Nat.ble (joinG l).length 140737488355328 with
   | true, true => some { v := .one (.d (.str (joinG l))), boxes := [] }
   | _, _ => none
  | none => none
 | _, _ => none
theorem parts3_get : ∀ {rows : List (List D)} {l : List (Bool × List UInt8 × List UInt8)}, parts3 rows = some l → rows.length = l.length ∧ ∀ (k : Nat) p, l[k]? = some p → rows[k]? = some [.bool p.1, .str p.2.1, .str p.2.2]
 | [], l, h => by
  simp only [parts3, Option.some.injEq] at h
  subst h
  exact ⟨rfl, by simp⟩
 | x :: xs, l, h => by
  unfold parts3 at h
  split at h
  ·rename_i heq; cases heq
  ·rename_i u k g r heq
   cases heq
   split at h
   ·rename_i l' hl'
    cases h
    obtain ⟨h1, h2⟩ := parts3_get hl'
    refine ⟨by simp [h1], fun j p hj => ?_⟩
    cases j with
    | zero => simp only [List.getElem?_cons_zero, Option.some.injEq] at hj ⊢; subst hj; rfl
    | succ j => simpa using h2 j p (by simpa using hj)
   ·cases h
  ·cases h
theorem joinTo_eq (l : List (Bool × List UInt8 × List UInt8)) : ∀ k, k ≤ l.length → joinTo (fun i => ((l[i]?).getD default).2.2) k = joinG (l.take k)
 | 0, _ => by simp [joinTo, joinG]
 | k + 1, h => by
  have : l[k]? = some l[k] := List.getElem?_eq_getElem (by omega)
  have e : l.take (k + 1) = l.take k ++ [l[k]] := (List.take_append_getElem (by omega)).symm
  rw [joinTo, joinTo_eq l k (by omega), e]
  simp only [joinG, List.flatMap_append, List.flatMap_cons, List.flatMap_nil, List.append_nil, this, Option.getD_some]
theorem bytes_calls : FnCalls Tryz.prog 28 A28 := by
 intro args boxes r hF w vals β ω Z hsz hok hpl hent
 unfold A28 at hF
 split at hF
 ·cases hF
 ·rename_i n x xs
  split at hF
  ·rename_i l hl
   split at hF
   ·rename_i hb1 hb2
    cases hF
    have hb1 := Nat.le_of_ble_eq_true hb1
    have hb2 := Nat.le_of_ble_eq_true hb2
    obtain ⟨hlen, hget⟩ := parts3_get hl
    have ha := hent.args 0
    obtain ⟨ws, e1, h1, h2, h3⟩ : ∃ ws : Array Value, vals.getD 0 undef = .agg ws ∧ All2 (fun u c => CRel (ctxOf Tryz.prog 0 w vals β ω Z) β Z (entrySt [.agg [.d (.int .i64 n), .d (.sl 3 (x :: xs))]] []) { tmps := #[], defers := [] } w c u) ws.toList [.d (.int .i64 n), .d (.sl 3 (x :: xs))] ∧ True ∧ True := by
     obtain ⟨ws, e1, e2⟩ := ha
     exact ⟨ws, e1, e2, trivial, trivial⟩
    obtain ⟨wl⟩ := ws
    match wl, h1 with
    | [v0, v1], h1 =>
     obtain ⟨g0, g1, _⟩ := h1
     have g0 : v0 = .int .i64 n := g0
     have g1 : DRel w Z (.sl 3 (x :: xs)) v1 := g1
     obtain ⟨ad, cap, q1, q2, q3, q4⟩ := (DRel.sl_iff (e := 3) rfl).1 g1
     subst g0; subst q1
     have hcap : cap ≠ 0 := by simp at q3; omega
     obtain ⟨hsp, hz⟩ := q2.resolve_left hcap
     have hvals : vals = #[.agg #[.int .i64 n, .slice (some ad) (x :: xs).length cap]] := by
      apply Array.ext'
      have : vals.toList.length = 1 := by simpa using hsz
      match hv : vals.toList, this with
      | [v], _ =>
       have : vals.getD 0 undef = v := by
        rw [Array.getD_eq_getD_getElem?, ← Array.getElem?_toList, hv]; rfl
       rw [this] at e1
       rw [e1]
     subst hvals
     have cells : ∀ k, k < (x :: xs).length → ∃ p, l[k]? = some p ∧ RowRel w Z [.bool p.1, .str p.2.1, .str p.2.2] ad.block (ad.off + k * 3) := by
      intro k hk
      have hk' : k < l.length := by rw [← hlen]; exact hk
      exact ⟨l[k], List.getElem?_eq_getElem hk', (q4.get (hget k l[k] (List.getElem?_eq_getElem hk'))).2⟩
     have hj := joinTo_eq l l.length (Nat.le_refl _)
     rw [List.take_length] at hj
     have walk := bytes_walk n ad (x :: xs).length cap hsp (fun i => ((l[i]?).getD default).1) (fun i => ((l[i]?).getD default).2.1) (fun i => ((l[i]?).getD default).2.2) w q3 (by omega)
      (fun k hk => by
       obtain ⟨p, p1, ⟨v, p2, p3⟩, _⟩ := cells k hk
       rw [p2]; simp only [p1, Option.getD_some]; exact congrArg some p3)
      (fun k hk => by
       obtain ⟨p, p1, _, ⟨v, p2, p3⟩, _⟩ := cells k hk
       rw [p2]; simp only [p1, Option.getD_some]; exact congrArg some p3)
      (fun k hk => by
       obtain ⟨p, p1, _, _, ⟨v, p2, p3⟩, _⟩ := cells k hk
       rw [show ad.off + k * 3 + 2 = ad.off + k * 3 + 1 + 1 by omega, p2]; simp only [p1, Option.getD_some]; exact congrArg some p3)
      (hent.zin _ hz) (by rw [hlen, hj]; exact hb2)
     refine walk.mono ?_
     rintro e w' ⟨rfl, hb⟩
     refine ⟨_, _, _, _, rfl, exit_scalar hent hok hb.os hb.tape hb.output hb.size (fun b hb' _ => hb.block b hb') (K₀ := ctxOf Tryz.prog 0 w #[] β ω Z) (β₀ := β) (Z₀ := Z) (s₀ := entrySt [] []) (a₀ := { tmps := #[], defers := [] }) (w₀ := w) ?_ rfl rfl rfl⟩
     refine ⟨rfl, ?_⟩
     show Value.string _ = Value.string _
     rw [hlen, hj]
   ·cases hF
  ·cases hF
 ·cases hF
theorem bytes_ok : CallOK Tryz.prog 28 A28 := fn_ok Tryz.func28 (by kernel_rfl) rfl bytes_calls
end Go.Proofs.YtmoineigflegeaaGreatDoor.vx
set_option linter.unusedVariables false
namespace Go.Proofs.YtmoineigflegeaaGreatDoor.vx
open Go Go.Vs Go.RowKit Go.Proofs
theorem getD_of {vals : Array Value} {l : List Value} (hs : vals.size = l.length) (h : ∀ i, i < l.length → vals.getD i undef = l.getD i undef) : vals = l.toArray := by
 apply Array.ext
 ·simpa using hs
 ·intro i h1 h2
  have := h i (by omega)
  simp only [Array.getD_eq_getD_getElem?, Array.getElem?_eq_getElem h1, List.getD_eq_getElem?_getD, Option.getD_some] at this
  rw [List.getElem?_eq_getElem (by omega)] at this
  simpa using this
def A194 : AFun
 | [.one (.d (.str s)), .one (.d (.int .u8 c))], [] => some { v := .one (.d (.int .i64 (Lib.indexByte s c.toNat.toUInt8))), boxes := [] }
 | _, _ => none
theorem indexByte_ok : CallOK Tryz.prog 194 A194 := by
 intro args boxes r hF w vals β ω Z hsz hok hpl hent
 unfold A194 at hF
 split at hF
 ·rename_i s c
  cases hF
  have hv : vals = #[.string ⟨s.toArray⟩, .int .u8 c] := getD_of (l := [.string ⟨s.toArray⟩, .int .u8 c]) hsz fun i hi => by
   match i, hi with
   | 0, _ => exact (hent.args 0).2
   | 1, _ => exact (hent.args 1).2
  subst hv
  refine .inr ⟨.int .i64 (Lib.indexByte s c.toNat.toUInt8), w, _, _, Z, ?_, exit_scalar hent hok rfl rfl rfl (Nat.le_refl _) (fun _ _ _ => rfl) (K₀ := ctxOf Tryz.prog 0 w #[] β ω Z) (β₀ := β) (Z₀ := Z) (s₀ := entrySt [] []) (a₀ := { tmps := #[], defers := [] }) (w₀ := w) ⟨rfl, rfl⟩ rfl rfl rfl⟩
  rw [run_callFunc_extern Tryz.func194 (by kernel_rfl) (by kernel_rfl) (by kernel_rfl) (e := Extern.BytealgIndexByte.indexByte) (by kernel_rfl)]
  rw [Lib.run_indexByteString]
  rfl
 ·cases hF
def A0 : FuncId → AFun := fun g => match Nat.beq g 28 with
 | true => A28
 | false => match Nat.beq g 194 with
  | true => A194
  | false => fun _ _ => none
theorem A0_ok (g : FuncId) : CallOK Tryz.prog g (A0 g) := by
 unfold A0
 split
 ·rename_i h; rw [Nat.eq_of_beq_eq_true h]; exact bytes_ok
 ·split
  ·rename_i h; rw [Nat.eq_of_beq_eq_true h]; exact indexByte_ok
  ·exact fun args boxes r hr => by cases hr
end Go.Proofs.YtmoineigflegeaaGreatDoor.vx
namespace Go.Proofs.YtmoineigflegeaaGreatDoor.ve
open Go Go.Vs Go.Ve Go.Fn Go.Proofs.Tryz
set_option linter.unusedVariables false
def S194 : Sig := { args := [.one .s, .one (.i .u8)], res := [.one (.i .i64)] }
theorem ok194 : CallOK prog 194 (S194.F fun x => internal_bytealg_IndexByteString x.1 x.2) := by
 intro args boxes r h
 unfold Sig.F at h
 split at h
 ·rename_i z hz
  obtain ⟨s, c⟩ := z
  obtain ⟨h1, h2⟩ := Sig.dec_some S194 (by kernel_rfl) hz
  subst h1 h2
  cases h
  exact vx.indexByte_ok _ _ _ rfl
 ·cases h
def C194 : Con := S194.con (by kernel_rfl) (fun x => internal_bytealg_IndexByteString x.1 x.2)
theorem G194 : Good1 prog (194, C194) := ok194
end Go.Proofs.YtmoineigflegeaaGreatDoor.ve
namespace Go.Proofs.YtmoineigflegeaaGreatDoor.ve
open Go Go.Vs Go.Ve Go.Fn Go.Proofs.Tryz
set_option linter.unusedVariables false
def F167 : VFE := { cfg := { N := 8, T := T, R := R, con := fun _ f => lkF f [(194, C194)], var := [0, 1, 2, 3, 4], res := [4], eqs := EQ }, keys := [0, 1, 4], bkeys := [] }
def S167 : Sig := { args := [.one .s, .one (.i .u8)], boxes := [], res := [.one (.i .i64)], rbox := [], frz := [] }
def L167 : Nat → Option LoopRec := fun _ => none
set_option maxRecDepth 100000 in
theorem run167 : ∀ x, gives F167 L167 f167 S167 x = (fun x => internal_stringslite_IndexByte x.1 x.2) x := by
 intro x
 kernel_rfl
theorem fn167 : FnCalls prog 167 (S167.F (fun x => internal_stringslite_IndexByte x.1 x.2)) := fn_sig (F := F167) (tbl := L167) func167 (by kernel_rfl) mix (cok_list (l := [(194, C194)]) (tabsT rfl rfl) rfl (List.forall_mem_cons.2 ⟨G194, by simp⟩)) (by kernel_rfl) (by kernel_rfl) (by decide) (fun _ => by kernel_rfl) run167
def C167 : Con := S167.con (by kernel_rfl) (fun x => internal_stringslite_IndexByte x.1 x.2)
theorem G167 : Good1 prog (167, C167) := good_of func167 (by kernel_rfl) (by kernel_rfl) fn167
end Go.Proofs.YtmoineigflegeaaGreatDoor.ve
namespace Go.Proofs.YtmoineigflegeaaGreatDoor.ve
open Go Go.Vs Go.Ve Go.Fn Go.Proofs.Tryz
set_option linter.unusedVariables false
def F165 : VFE := { cfg := { N := 8, T := T, R := R, con := fun _ f => lkF f [(167, C167)], var := [0, 1, 2, 3, 4], res := [4], eqs := EQ }, keys := [0, 1, 4], bkeys := [] }
def S165 : Sig := { args := [.one .s, .one (.i .u8)], boxes := [], res := [.one (.i .i64)], rbox := [], frz := [] }
def L165 : Nat → Option LoopRec := fun _ => none
set_option maxRecDepth 100000 in
theorem run165 : ∀ x, gives F165 L165 f165 S165 x = (fun x => strings_IndexByte x.1 x.2) x := by
 intro x
 kernel_rfl
theorem fn165 : FnCalls prog 165 (S165.F (fun x => strings_IndexByte x.1 x.2)) := fn_sig (F := F165) (tbl := L165) func165 (by kernel_rfl) mix (cok_list (l := [(167, C167)]) (tabsT rfl rfl) rfl (List.forall_mem_cons.2 ⟨G167, by simp⟩)) (by kernel_rfl) (by kernel_rfl) (by decide) (fun _ => by kernel_rfl) run165
def C165 : Con := S165.con (by kernel_rfl) (fun x => strings_IndexByte x.1 x.2)
theorem G165 : Good1 prog (165, C165) := good_of func165 (by kernel_rfl) (by kernel_rfl) fn165
end Go.Proofs.YtmoineigflegeaaGreatDoor.ve
namespace Go.Proofs.YtmoineigflegeaaGreatDoor.ve
open Go Go.Vs Go.Ve Go.Fn Go.Proofs.Tryz
set_option linter.unusedVariables false
def F145 : VFE := { cfg := { N := 81, T := T, R := R, con := fun _ f => lkF f [(165, C165)], var := [0, 1, 2, 3, 4, 5, 6], res := [4, 5, 6], eqs := EQ }, keys := [0, 1, 4, 5, 6, 17, 23, 27, 41, 47, 60], bkeys := [] }
def S145 : Sig := { args := [.one .s, .one (.i .i64)], boxes := [], res := [.one (.i .i64), .one .b, .one .b], rbox := [], frz := [] }
def L145 : Nat → Option LoopRec := fun n => match n with
 | 0 => some { head := { live := [0, 4, 5], lbox := [], vs := [.slot 4 (.i .i64)] }, exits := [(.exit 0, { live := [0, 4, 5], lbox := [], vs := [.slot 4 (.i .i64)] })] }
 | 1 => some { head := { live := [0, 4, 5], lbox := [], vs := [.slot 4 (.i .i64)] }, exits := [(.exit 2, { live := [0, 4, 5], lbox := [], vs := [.slot 4 (.i .i64)] })] }
 | _ => none
set_option maxRecDepth 100000 in
theorem run145 : ∀ x, gives F145 L145 f145 S145 x = (fun x => sheet_field x.1 x.2) x := by
 intro x
 kernel_rfl
theorem fn145 : FnCalls prog 145 (S145.F (fun x => sheet_field x.1 x.2)) := fn_sig (F := F145) (tbl := L145) func145 (by kernel_rfl) mix (cok_list (l := [(165, C165)]) (tabsT rfl rfl) rfl (List.forall_mem_cons.2 ⟨G165, by simp⟩)) (by kernel_rfl) (by kernel_rfl) (by decide) (fun _ => by kernel_rfl) run145
def C145 : Con := S145.con (by kernel_rfl) (fun x => sheet_field x.1 x.2)
theorem G145 : Good1 prog (145, C145) := good_of func145 (by kernel_rfl) (by kernel_rfl) fn145
end Go.Proofs.YtmoineigflegeaaGreatDoor.ve
namespace Go.Proofs.YtmoineigflegeaaGreatDoor.ve
open Go Go.Vs Go.Ve Go.Fn Go.Proofs.Tryz
set_option linter.unusedVariables false
def F29 : VFE := { cfg := { N := 26, T := T, R := R, con := fun _ f => lkF f [], var := [0, 1, 2, 3, 4, 5], res := [4], eqs := EQ }, keys := [0, 1, 4, 5, 10, 12, 13, 14, 24], bkeys := [] }
def S29 : Sig := { args := [.one (.n .data (.pair .bool (.pair .str .str))), .one (.n .data (.pair .bool (.pair .str .str)))], boxes := [], res := [.one .b], rbox := [], frz := [] }
def L29 : Nat → Option LoopRec := fun n => match n with
 | 0 => some { head := { live := [0, 1, 12, 13], lbox := [], vs := [.slot 13 (.i .i64)] }, exits := [(.ret, { live := [4], lbox := [], vs := [.slot 4 .b] }), (.exit 0, { live := [], lbox := [], vs := [] })] }
 | _ => none
set_option maxRecDepth 100000 in
theorem run29 : ∀ x, gives F29 L29 f29 S29 x = (fun x => slices_Equal_api_Part x.1 x.2) x := by
 intro x
 kernel_rfl
theorem fn29 : FnCalls prog 29 (S29.F (fun x => slices_Equal_api_Part x.1 x.2)) := fn_sig (F := F29) (tbl := L29) func29 (by kernel_rfl) mix (cok_list (l := []) (tabsT rfl rfl) rfl (by simp)) (by kernel_rfl) (by kernel_rfl) (by decide) (fun _ => by kernel_rfl) run29
def C29 : Con := S29.con (by kernel_rfl) (fun x => slices_Equal_api_Part x.1 x.2)
theorem G29 : Good1 prog (29, C29) := good_of func29 (by kernel_rfl) (by kernel_rfl) fn29
end Go.Proofs.YtmoineigflegeaaGreatDoor.ve
namespace Go.Proofs.YtmoineigflegeaaGreatDoor.ve
open Go Go.Vs Go.Ve Go.Fn Go.Proofs.Tryz
set_option linter.unusedVariables false
def F67 : VFE := { cfg := { N := 9, T := T, R := R, con := fun _ f => lkF f [], var := [0, 1, 2], res := [2], eqs := EQ }, keys := [0, 1, 2, 5], bkeys := [.loc 1] }
def S67 : Sig := { args := [.row (.pair (.int .i64) (.pair .str (.int .i64)))], boxes := [], res := [.one (.i .i64)], rbox := [], frz := [] }
def L67 : Nat → Option LoopRec := fun _ => none
set_option maxRecDepth 100000 in
theorem run67 : ∀ x, gives F67 L67 f67 S67 x = (fun x => item_width x) x := by
 intro x
 kernel_rfl
theorem fn67 : FnCalls prog 67 (S67.F (fun x => item_width x)) := fn_sig (F := F67) (tbl := L67) func67 (by kernel_rfl) mix (cok_list (l := []) (tabsT rfl rfl) rfl (by simp)) (by kernel_rfl) (by kernel_rfl) (by decide) (fun _ => by kernel_rfl) run67
def C67 : Con := S67.con (by kernel_rfl) (fun x => item_width x)
theorem G67 : Good1 prog (67, C67) := good_of func67 (by kernel_rfl) (by kernel_rfl) fn67
end Go.Proofs.YtmoineigflegeaaGreatDoor.ve
namespace Go.Proofs.YtmoineigflegeaaGreatDoor.ve
open Go Go.Vs Go.Ve Go.Fn Go.Proofs.Tryz
set_option linter.unusedVariables false
def F36 : VFE := { cfg := { N := 18, T := T, R := R, con := fun _ f => lkF f [(67, C67)], var := [0, 1, 2, 3, 4, 5], res := [2], eqs := EQ }, keys := [0, 2, 3, 5, 6, 7, 8, 9], bkeys := [.loc 5] }
def S36 : Sig := { args := [.one (.n .data (.pair (.int .i64) (.pair .str (.int .i64))))], boxes := [], res := [.one (.i .i64)], rbox := [], frz := [] }
def L36 : Nat → Option LoopRec := fun n => match n with
 | 0 => some { head := { live := [3, 6, 7, 8], lbox := [], vs := [.slot 3 (.i .i64), .slot 8 (.i .i64)] }, exits := [(.exit 0, { live := [3], lbox := [], vs := [.slot 3 (.i .i64)] })] }
 | _ => none
set_option maxRecDepth 100000 in
theorem run36 : ∀ x, gives F36 L36 f36 S36 x = (fun x => item_Length x) x := by
 intro x
 kernel_rfl
theorem fn36 : FnCalls prog 36 (S36.F (fun x => item_Length x)) := fn_sig (F := F36) (tbl := L36) func36 (by kernel_rfl) mix (cok_list (l := [(67, C67)]) (tabsT rfl rfl) rfl (List.forall_mem_cons.2 ⟨G67, by simp⟩)) (by kernel_rfl) (by kernel_rfl) (by decide) (fun _ => by kernel_rfl) run36
def C36 : Con := S36.con (by kernel_rfl) (fun x => item_Length x)
theorem G36 : Good1 prog (36, C36) := good_of func36 (by kernel_rfl) (by kernel_rfl) fn36
end Go.Proofs.YtmoineigflegeaaGreatDoor.ve
namespace Go.Proofs.YtmoineigflegeaaGreatDoor.ve
open Go Go.Vs Go.Ve Go.Fn Go.Proofs.Tryz
set_option linter.unusedVariables false
def F38d : VFE := { cfg := { N := 67, T := T, R := R, con := fun _ f => lkF f [(36, C36), (67, C67)], var := [0, 1, 2, 3, 4, 5, 6, 7, 8, 9, 10, 11, 12, 13, 14], res := [6, 7], eqs := EQ, outd := true }, keys := [0, 1, 2, 6, 7, 8, 9, 11, 12, 13, 14, 27, 28, 29, 30, 31, 46, 49], bkeys := [.loc 11] }
def S38d : Sig := { args := [.one (.n .data (.pair (.int .i64) (.pair .str (.int .i64)))), .one (.i .i64), .one (.i .i64)], boxes := [], res := [.one (.n .data (.pair (.int .i64) (.pair .str (.int .i64)))), .one .b], rbox := [], frz := [] }
def L38d : Nat → Option LoopRec := fun n => match n with
 | 0 => some { head := { live := [1, 2, 8, 9, 28, 29, 30], lbox := [], vs := [.slot 8 (.n .own (.pair (.int .i64) (.pair .str (.int .i64)))), .slot 9 (.i .i64), .slot 30 (.i .i64)] }, exits := [(.exit 0, { live := [8], lbox := [], vs := [.slot 8 (.n .own (.pair (.int .i64) (.pair .str (.int .i64))))] })] }
 | _ => none
set_option maxRecDepth 100000 in
theorem run38d : ∀ x, gives F38d L38d f38 S38d x = (fun x => item_Slice_d x.1 x.2.1 x.2.2) x := by
 intro x
 kernel_rfl
theorem fn38d : FnCalls prog 38 (S38d.F (fun x => item_Slice_d x.1 x.2.1 x.2.2)) := fn_sig (F := F38d) (tbl := L38d) func38 (by kernel_rfl) mix (cok_list (l := [(36, C36), (67, C67)]) (tabsT rfl rfl) rfl (List.forall_mem_cons.2 ⟨G36, List.forall_mem_cons.2 ⟨G67, by simp⟩⟩)) (by kernel_rfl) (by kernel_rfl) (by decide) (fun _ => by kernel_rfl) run38d
def C38d : Con := S38d.con (by kernel_rfl) (fun x => item_Slice_d x.1 x.2.1 x.2.2)
theorem G38d : Good1 prog (38, C38d) := good_of func38 (by kernel_rfl) (by kernel_rfl) fn38d
end Go.Proofs.YtmoineigflegeaaGreatDoor.ve
namespace Go.Proofs.YtmoineigflegeaaGreatDoor.ve
open Go Go.Vs Go.Ve Go.Fn Go.Proofs.Tryz
set_option linter.unusedVariables false
def F63 : VFE := { cfg := { N := 26, T := T, R := R, con := fun _ f => lkF f [], var := [0, 1, 2, 3, 4], res := [2], eqs := EQ }, keys := [0, 2, 3, 4, 9, 10, 11], bkeys := [] }
def S63 : Sig := { args := [.one .s], boxes := [], res := [.one .s], rbox := [], frz := [] }
def L63 : Nat → Option LoopRec := fun n => match n with
 | 0 => some { head := { live := [0, 3, 9, 10], lbox := [], vs := [.slot 3 (.l .own (.int .u8)), .slot 10 (.i .i64)] }, exits := [(.exit 0, { live := [3], lbox := [], vs := [.slot 3 (.l .own (.int .u8))] })] }
 | _ => none
set_option maxRecDepth 100000 in
theorem run63 : ∀ x, gives F63 L63 f63 S63 x = (fun x => segment_reversed x) x := by
 intro x
 kernel_rfl
theorem fn63 : FnCalls prog 63 (S63.F (fun x => segment_reversed x)) := fn_sig (F := F63) (tbl := L63) func63 (by kernel_rfl) mix (cok_list (l := []) (tabsT rfl rfl) rfl (by simp)) (by kernel_rfl) (by kernel_rfl) (by decide) (fun _ => by kernel_rfl) run63
def C63 : Con := S63.con (by kernel_rfl) (fun x => segment_reversed x)
theorem G63 : Good1 prog (63, C63) := good_of func63 (by kernel_rfl) (by kernel_rfl) fn63
end Go.Proofs.YtmoineigflegeaaGreatDoor.ve
namespace Go.Proofs.YtmoineigflegeaaGreatDoor.ve
open Go Go.Vs Go.Ve Go.Fn Go.Proofs.Tryz
set_option linter.unusedVariables false
def F44 : VFE := { cfg := { N := 18, T := T, R := R, con := fun _ f => lkF f [], var := [0, 1, 2, 3, 4], res := [4], eqs := EQ }, keys := [0, 1, 4], bkeys := [] }
def S44 : Sig := { args := [.one .s, .one .s], boxes := [], res := [.one .b], rbox := [], frz := [] }
def L44 : Nat → Option LoopRec := fun _ => none
set_option maxRecDepth 100000 in
theorem run44 : ∀ x, gives F44 L44 f44 S44 x = (fun x => bitextref7_begins x.1 x.2) x := by
 intro x
 kernel_rfl
theorem fn44 : FnCalls prog 44 (S44.F (fun x => bitextref7_begins x.1 x.2)) := fn_sig (F := F44) (tbl := L44) func44 (by kernel_rfl) mix (cok_list (l := []) (tabsT rfl rfl) rfl (by simp)) (by kernel_rfl) (by kernel_rfl) (by decide) (fun _ => by kernel_rfl) run44
def C44 : Con := S44.con (by kernel_rfl) (fun x => bitextref7_begins x.1 x.2)
theorem G44 : Good1 prog (44, C44) := good_of func44 (by kernel_rfl) (by kernel_rfl) fn44
end Go.Proofs.YtmoineigflegeaaGreatDoor.ve
namespace Go.Proofs.YtmoineigflegeaaGreatDoor.ve
open Go Go.Vs Go.Ve Go.Fn Go.Proofs.Tryz
set_option linter.unusedVariables false
def F136 : VFE := { cfg := { N := 7, T := T, R := R, con := fun _ f => lkF f [], var := [0, 1], res := [], eqs := EQ }, keys := [0, 2], bkeys := [.loc 2] }
def S136 : Sig := { args := [.one (.i .u8)], boxes := [], res := [.row (.pair (.int .i64) (.pair .str (.int .i64)))], rbox := [], frz := [] }
def L136 : Nat → Option LoopRec := fun _ => none
set_option maxRecDepth 100000 in
theorem run136 : ∀ x, gives F136 L136 f136 S136 x = (fun x => bitextref7_text x) x := by
 intro x
 kernel_rfl
theorem fn136 : FnCalls prog 136 (S136.F (fun x => bitextref7_text x)) := fn_sig (F := F136) (tbl := L136) func136 (by kernel_rfl) mix (cok_list (l := []) (tabsT rfl rfl) rfl (by simp)) (by kernel_rfl) (by kernel_rfl) (by decide) (fun _ => by kernel_rfl) run136
def C136 : Con := S136.con (by kernel_rfl) (fun x => bitextref7_text x)
theorem G136 : Good1 prog (136, C136) := good_of func136 (by kernel_rfl) (by kernel_rfl) fn136
end Go.Proofs.YtmoineigflegeaaGreatDoor.ve
namespace Go.Proofs.YtmoineigflegeaaGreatDoor.ve
open Go Go.Vs Go.Ve Go.Fn Go.Proofs.Tryz
set_option linter.unusedVariables false
def F104 : VFE := { cfg := { N := 24, T := T, R := R, con := fun _ f => lkF f [(44, C44), (136, C136)], var := [0, 1, 3, 6, 12], res := [3], eqs := EQ }, keys := [0, 2, 3, 5, 6, 9, 12, 15], bkeys := [.loc 2] }
def S104 : Sig := { args := [.one .s], boxes := [], res := [.row (.pair (.int .i64) (.pair .str (.int .i64))), .one (.i .i64)], rbox := [], frz := [] }
def L104 : Nat → Option LoopRec := fun _ => none
set_option maxRecDepth 100000 in
theorem run104 : ∀ x, gives F104 L104 f104 S104 x = (fun x => bitextref7_sheet x) x := by
 intro x
 kernel_rfl
theorem fn104 : FnCalls prog 104 (S104.F (fun x => bitextref7_sheet x)) := fn_sig (F := F104) (tbl := L104) func104 (by kernel_rfl) mix (cok_list (l := [(44, C44), (136, C136)]) (tabsT rfl rfl) rfl (List.forall_mem_cons.2 ⟨G44, List.forall_mem_cons.2 ⟨G136, by simp⟩⟩)) (by kernel_rfl) (by kernel_rfl) (by decide) (fun _ => by kernel_rfl) run104
def C104 : Con := S104.con (by kernel_rfl) (fun x => bitextref7_sheet x)
theorem G104 : Good1 prog (104, C104) := good_of func104 (by kernel_rfl) (by kernel_rfl) fn104
end Go.Proofs.YtmoineigflegeaaGreatDoor.ve
namespace Go.Proofs.YtmoineigflegeaaGreatDoor.ve
open Go Go.Vs Go.Ve Go.Fn Go.Proofs.Tryz
set_option linter.unusedVariables false
def F77 : VFE := { cfg := { N := 23, T := T, R := R, con := fun _ f => lkF f [(104, C104)], var := [0, 1, 2, 3, 5, 7, 13], res := [5], eqs := EQ }, keys := [0, 1, 4, 5, 6, 7, 13], bkeys := [.loc 4] }
def S77 : Sig := { args := [.one (.i .i64), .one .s], boxes := [], res := [.row (.pair (.int .i64) (.pair .str (.int .i64))), .one (.i .i64)], rbox := [], frz := [] }
def L77 : Nat → Option LoopRec := fun _ => none
set_option maxRecDepth 100000 in
theorem run77 : ∀ x, gives F77 L77 f77 S77 x = (fun x => bitextref7_element x.1 x.2) x := by
 intro x
 kernel_rfl
theorem fn77 : FnCalls prog 77 (S77.F (fun x => bitextref7_element x.1 x.2)) := fn_sig (F := F77) (tbl := L77) func77 (by kernel_rfl) mix (cok_list (l := [(104, C104)]) (tabsT rfl rfl) rfl (List.forall_mem_cons.2 ⟨G104, by simp⟩)) (by kernel_rfl) (by kernel_rfl) (by decide) (fun _ => by kernel_rfl) run77
def C77 : Con := S77.con (by kernel_rfl) (fun x => bitextref7_element x.1 x.2)
theorem G77 : Good1 prog (77, C77) := good_of func77 (by kernel_rfl) (by kernel_rfl) fn77
end Go.Proofs.YtmoineigflegeaaGreatDoor.ve
namespace Go.Proofs.YtmoineigflegeaaGreatDoor.ve
open Go Go.Vs Go.Ve Go.Fn Go.Proofs.Tryz
set_option linter.unusedVariables false
def F105 : VFE := { cfg := { N := 61, T := T, R := R, con := fun _ f => lkF f [], var := [0, 1, 2, 3, 4, 5, 6], res := [2], eqs := EQ }, keys := [0, 2, 3, 4, 5, 6, 8, 9, 10, 18, 25, 38], bkeys := [.loc 5] }
def S105 : Sig := { args := [.one (.n .data (.pair (.int .i64) (.pair .str (.int .i64))))], boxes := [], res := [.one (.n .own (.pair (.int .i64) (.pair .str (.int .i64))))], rbox := [], frz := [] }
def L105 : Nat → Option LoopRec := fun n => match n with
 | 0 => some { head := { live := [0, 3, 8, 9], lbox := [], vs := [.slot 3 (.n .own (.pair (.int .i64) (.pair .str (.int .i64)))), .slot 9 (.i .i64)] }, exits := [(.exit 0, { live := [3], lbox := [], vs := [.slot 3 (.n .own (.pair (.int .i64) (.pair .str (.int .i64))))] })] }
 | _ => none
set_option maxRecDepth 100000 in
theorem run105 : ∀ x, gives F105 L105 f105 S105 x = (fun x => bitextref3_Normalize x) x := by
 intro x
 kernel_rfl
theorem fn105 : FnCalls prog 105 (S105.F (fun x => bitextref3_Normalize x)) := fn_sig (F := F105) (tbl := L105) func105 (by kernel_rfl) mix (cok_list (l := []) (tabsT rfl rfl) rfl (by simp)) (by kernel_rfl) (by kernel_rfl) (by decide) (fun _ => by kernel_rfl) run105
def C105 : Con := S105.con (by kernel_rfl) (fun x => bitextref3_Normalize x)
theorem G105 : Good1 prog (105, C105) := good_of func105 (by kernel_rfl) (by kernel_rfl) fn105
end Go.Proofs.YtmoineigflegeaaGreatDoor.ve
namespace Go.Proofs.YtmoineigflegeaaGreatDoor.ve
open Go Go.Vs Go.Ve Go.Fn Go.Proofs.Tryz
set_option linter.unusedVariables false
def F78 : VFE := { cfg := { N := 10, T := T, R := R, con := fun _ f => lkF f [(105, C105)], var := [0, 1, 2, 3, 4], res := [4], eqs := EQ }, keys := [0, 1, 4], bkeys := [] }
def S78 : Sig := { args := [.one (.n .data (.pair (.int .i64) (.pair .str (.int .i64)))), .one (.n .data (.pair (.int .i64) (.pair .str (.int .i64))))], boxes := [], res := [.one (.n .own (.pair (.int .i64) (.pair .str (.int .i64))))], rbox := [], frz := [] }
def L78 : Nat → Option LoopRec := fun _ => none
set_option maxRecDepth 100000 in
theorem run78 : ∀ x, gives F78 L78 f78 S78 x = (fun x => bitextref3_Concat x.1 x.2) x := by
 intro x
 kernel_rfl
theorem fn78 : FnCalls prog 78 (S78.F (fun x => bitextref3_Concat x.1 x.2)) := fn_sig (F := F78) (tbl := L78) func78 (by kernel_rfl) mix (cok_list (l := [(105, C105)]) (tabsT rfl rfl) rfl (List.forall_mem_cons.2 ⟨G105, by simp⟩)) (by kernel_rfl) (by kernel_rfl) (by decide) (fun _ => by kernel_rfl) run78
def C78 : Con := S78.con (by kernel_rfl) (fun x => bitextref3_Concat x.1 x.2)
theorem G78 : Good1 prog (78, C78) := good_of func78 (by kernel_rfl) (by kernel_rfl) fn78
end Go.Proofs.YtmoineigflegeaaGreatDoor.ve
namespace Go.Proofs.YtmoineigflegeaaGreatDoor.ve
open Go Go.Vs Go.Ve Go.Fn Go.Proofs.Tryz
set_option linter.unusedVariables false
def F79 : VFE := { cfg := { N := 17, T := T, R := R, con := fun _ f => lkF f [], var := [0, 1, 2, 3], res := [2], eqs := EQ }, keys := [0, 2, 3, 15], bkeys := [] }
def S79 : Sig := { args := [.one (.i .i64)], boxes := [], res := [.one .s], rbox := [], frz := [] }
def L79 : Nat → Option LoopRec := fun n => match n with
 | 0 => some { head := { live := [0, 3], lbox := [], vs := [.slot 0 (.i .i64), .slot 3 .s] }, exits := [(.ret, { live := [2], lbox := [], vs := [.slot 2 .s] })] }
 | _ => none
set_option maxRecDepth 100000 in
theorem run79 : ∀ x, gives F79 L79 f79 S79 x = (fun x => bitextref1_decimal x) x := by
 intro x
 kernel_rfl
theorem fn79 : FnCalls prog 79 (S79.F (fun x => bitextref1_decimal x)) := fn_sig (F := F79) (tbl := L79) func79 (by kernel_rfl) mix (cok_list (l := []) (tabsT rfl rfl) rfl (by simp)) (by kernel_rfl) (by kernel_rfl) (by decide) (fun _ => by kernel_rfl) run79
def C79 : Con := S79.con (by kernel_rfl) (fun x => bitextref1_decimal x)
theorem G79 : Good1 prog (79, C79) := good_of func79 (by kernel_rfl) (by kernel_rfl) fn79
end Go.Proofs.YtmoineigflegeaaGreatDoor.ve
namespace Go.Proofs.YtmoineigflegeaaGreatDoor.ve
open Go Go.Vs Go.Ve Go.Fn Go.Proofs.Tryz
set_option linter.unusedVariables false
def F51 : VFE := { cfg := { N := 16, T := T, R := R, con := fun _ f => lkF f [(79, C79)], var := [0, 1, 2], res := [2], eqs := EQ }, keys := [0, 2, 8], bkeys := [] }
def S51 : Sig := { args := [.one (.i .i64)], boxes := [], res := [.one .s], rbox := [], frz := [] }
def L51 : Nat → Option LoopRec := fun _ => none
set_option maxRecDepth 100000 in
theorem run51 : ∀ x, gives F51 L51 f51 S51 x = (fun x => bitextref1_Decimal x) x := by
 intro x
 kernel_rfl
theorem fn51 : FnCalls prog 51 (S51.F (fun x => bitextref1_Decimal x)) := fn_sig (F := F51) (tbl := L51) func51 (by kernel_rfl) mix (cok_list (l := [(79, C79)]) (tabsT rfl rfl) rfl (List.forall_mem_cons.2 ⟨G79, by simp⟩)) (by kernel_rfl) (by kernel_rfl) (by decide) (fun _ => by kernel_rfl) run51
def C51 : Con := S51.con (by kernel_rfl) (fun x => bitextref1_Decimal x)
theorem G51 : Good1 prog (51, C51) := good_of func51 (by kernel_rfl) (by kernel_rfl) fn51
end Go.Proofs.YtmoineigflegeaaGreatDoor.ve
namespace Go.Proofs.YtmoineigflegeaaGreatDoor.ve
open Go Go.Vs Go.Ve Go.Fn Go.Proofs.Tryz
set_option linter.unusedVariables false
def F47 : VFE := { cfg := { N := 18, T := T, R := R, con := fun _ f => lkF f [], var := [0, 1, 2, 3], res := [2], eqs := EQ }, keys := [0, 2, 3, 7, 13], bkeys := [] }
def S47 : Sig := { args := [.one .s], boxes := [], res := [.one .s], rbox := [], frz := [] }
def L47 : Nat → Option LoopRec := fun n => match n with
 | 0 => some { head := { live := [0, 3], lbox := [], vs := [.slot 3 (.i .i64)] }, exits := [(.ret, { live := [2], lbox := [], vs := [.slot 2 .s] }), (.exit 0, { live := [0], lbox := [], vs := [] })] }
 | _ => none
set_option maxRecDepth 100000 in
theorem run47 : ∀ x, gives F47 L47 f47 S47 x = (fun x => bitextref3_Name x) x := by
 intro x
 kernel_rfl
theorem fn47 : FnCalls prog 47 (S47.F (fun x => bitextref3_Name x)) := fn_sig (F := F47) (tbl := L47) func47 (by kernel_rfl) mix (cok_list (l := []) (tabsT rfl rfl) rfl (by simp)) (by kernel_rfl) (by kernel_rfl) (by decide) (fun _ => by kernel_rfl) run47
def C47 : Con := S47.con (by kernel_rfl) (fun x => bitextref3_Name x)
theorem G47 : Good1 prog (47, C47) := good_of func47 (by kernel_rfl) (by kernel_rfl) fn47
end Go.Proofs.YtmoineigflegeaaGreatDoor.ve
namespace Go.Proofs.YtmoineigflegeaaGreatDoor.ve
open Go Go.Vs Go.Ve Go.Fn Go.Proofs.Tryz
set_option linter.unusedVariables false
def F68 : VFE := { cfg := { N := 51, T := T, R := R, con := fun _ f => lkF f [], var := [0, 1, 2, 3, 18, 25, 32], res := [2], eqs := EQ }, keys := [0, 2, 3, 18, 25, 32], bkeys := [] }
def S68 : Sig := { args := [.one (.i .u8)], boxes := [], res := [.one (.i .i64)], rbox := [], frz := [] }
def L68 : Nat → Option LoopRec := fun _ => none
set_option maxRecDepth 100000 in
theorem run68 : ∀ x, gives F68 L68 f68 S68 x = (fun x => class_Of x) x := by
 intro x
 kernel_rfl
theorem fn68 : FnCalls prog 68 (S68.F (fun x => class_Of x)) := fn_sig (F := F68) (tbl := L68) func68 (by kernel_rfl) mix (cok_list (l := []) (tabsT rfl rfl) rfl (by simp)) (by kernel_rfl) (by kernel_rfl) (by decide) (fun _ => by kernel_rfl) run68
def C68 : Con := S68.con (by kernel_rfl) (fun x => class_Of x)
theorem G68 : Good1 prog (68, C68) := good_of func68 (by kernel_rfl) (by kernel_rfl) fn68
end Go.Proofs.YtmoineigflegeaaGreatDoor.ve
namespace Go.Proofs.YtmoineigflegeaaGreatDoor.ve
open Go Go.Vs Go.Ve Go.Fn Go.Proofs.Tryz
set_option linter.unusedVariables false
def F39 : VFE := { cfg := { N := 36, T := T, R := R, con := fun _ f => lkF f [(68, C68)], var := [0, 1, 2, 3], res := [2, 3], eqs := EQ }, keys := [0, 2, 3, 15, 28, 33], bkeys := [] }
def S39 : Sig := { args := [.one .s], boxes := [], res := [.one (.i .i64), .one (.i .i64)], rbox := [], frz := [] }
def L39 : Nat → Option LoopRec := fun n => match n with
 | 0 => some { head := { live := [0, 2, 3], lbox := [], vs := [.slot 2 (.i .i64)] }, exits := [(.exit 0, { live := [0, 2, 3], lbox := [], vs := [.slot 2 (.i .i64)] })] }
 | 1 => some { head := { live := [0, 2, 3], lbox := [], vs := [.slot 3 (.i .i64)] }, exits := [(.exit 2, { live := [2, 3], lbox := [], vs := [.slot 3 (.i .i64)] })] }
 | _ => none
set_option maxRecDepth 100000 in
theorem run39 : ∀ x, gives F39 L39 f39 S39 x = (fun x => class_Trim x) x := by
 intro x
 kernel_rfl
theorem fn39 : FnCalls prog 39 (S39.F (fun x => class_Trim x)) := fn_sig (F := F39) (tbl := L39) func39 (by kernel_rfl) mix (cok_list (l := [(68, C68)]) (tabsT rfl rfl) rfl (List.forall_mem_cons.2 ⟨G68, by simp⟩)) (by kernel_rfl) (by kernel_rfl) (by decide) (fun _ => by kernel_rfl) run39
def C39 : Con := S39.con (by kernel_rfl) (fun x => class_Trim x)
theorem G39 : Good1 prog (39, C39) := good_of func39 (by kernel_rfl) (by kernel_rfl) fn39
end Go.Proofs.YtmoineigflegeaaGreatDoor.ve
namespace Go.Proofs.YtmoineigflegeaaGreatDoor.ve
open Go Go.Vs Go.Ve Go.Fn Go.Proofs.Tryz
set_option linter.unusedVariables false
def F66 : VFE := { cfg := { N := 56, T := T, R := R, con := fun _ f => lkF f [], var := [0, 1, 2, 3, 4, 5], res := [2], eqs := EQ }, keys := [0, 2, 3, 4, 5, 9, 15, 36, 48], bkeys := [] }
def S66 : Sig := { args := [.one (.n .data (.pair (.int .i64) (.pair .str (.int .i64))))], boxes := [], res := [.one (.n .own (.pair (.int .i64) (.pair .str (.int .i64))))], rbox := [], frz := [] }
def L66 : Nat → Option LoopRec := fun n => match n with
 | 0 => some { head := { live := [0, 3, 4], lbox := [], vs := [.slot 3 (.n .own (.pair (.int .i64) (.pair .str (.int .i64)))), .slot 4 (.i .i64)] }, exits := [(.exit 0, { live := [3], lbox := [], vs := [.slot 3 (.n .own (.pair (.int .i64) (.pair .str (.int .i64))))] })] }
 | 1 => some { head := { live := [0, 3, 4, 5], lbox := [], vs := [.slot 4 (.i .i64), .slot 5 (.n .own (.int .u8))] }, exits := [(.exit 2, { live := [0, 3, 4, 5], lbox := [], vs := [.slot 4 (.i .i64), .slot 5 (.n .own (.int .u8))] })] }
 | _ => none
set_option maxRecDepth 100000 in
theorem run66 : ∀ x, gives F66 L66 f66 S66 x = (fun x => item_Normalize x) x := by
 intro x
 kernel_rfl
theorem fn66 : FnCalls prog 66 (S66.F (fun x => item_Normalize x)) := fn_sig (F := F66) (tbl := L66) func66 (by kernel_rfl) mix (cok_list (l := []) (tabsT rfl rfl) rfl (by simp)) (by kernel_rfl) (by kernel_rfl) (by decide) (fun _ => by kernel_rfl) run66
def C66 : Con := S66.con (by kernel_rfl) (fun x => item_Normalize x)
theorem G66 : Good1 prog (66, C66) := good_of func66 (by kernel_rfl) (by kernel_rfl) fn66
end Go.Proofs.YtmoineigflegeaaGreatDoor.ve
namespace Go.Proofs.YtmoineigflegeaaGreatDoor.ve
open Go Go.Vs Go.Ve Go.Fn Go.Proofs.Tryz
set_option linter.unusedVariables false
def F34 : VFE := { cfg := { N := 28, T := T, R := R, con := fun _ f => lkF f [], var := [0, 1, 2, 3, 4, 5, 14, 20], res := [2], eqs := EQ }, keys := [0, 2, 3, 5, 6, 7, 8, 9, 13, 14, 20], bkeys := [.loc 5] }
def S34 : Sig := { args := [.one (.n .data (.pair (.int .i64) (.pair .str (.int .i64))))], boxes := [], res := [.one .s], rbox := [], frz := [] }
def L34 : Nat → Option LoopRec := fun n => match n with
 | 0 => some { head := { live := [3, 6, 7, 8], lbox := [], vs := [.slot 3 (.n .own (.int .u8)), .slot 8 (.i .i64)] }, exits := [(.exit 0, { live := [3], lbox := [], vs := [.slot 3 (.n .own (.int .u8))] })] }
 | _ => none
set_option maxRecDepth 100000 in
theorem run34 : ∀ x, gives F34 L34 f34 S34 x = (fun x => item_Plain x) x := by
 intro x
 kernel_rfl
theorem fn34 : FnCalls prog 34 (S34.F (fun x => item_Plain x)) := fn_sig (F := F34) (tbl := L34) func34 (by kernel_rfl) mix (cok_list (l := []) (tabsT rfl rfl) rfl (by simp)) (by kernel_rfl) (by kernel_rfl) (by decide) (fun _ => by kernel_rfl) run34
def C34 : Con := S34.con (by kernel_rfl) (fun x => item_Plain x)
theorem G34 : Good1 prog (34, C34) := good_of func34 (by kernel_rfl) (by kernel_rfl) fn34
end Go.Proofs.YtmoineigflegeaaGreatDoor.ve
namespace Go.Proofs.YtmoineigflegeaaGreatDoor.ve
open Go Go.Vs Go.Ve Go.Fn Go.Proofs.Tryz
set_option linter.unusedVariables false
def F35 : VFE := { cfg := { N := 82, T := T, R := R, con := fun _ f => lkF f [(34, C34), (66, C66)], var := [0, 1, 2, 3, 4, 5, 6, 7, 27, 41, 55], res := [4], eqs := EQ }, keys := [0, 1, 4, 5, 6, 7, 16, 20, 27, 41, 55, 76], bkeys := [.loc 7] }
def S35 : Sig := { args := [.one (.n .data (.pair (.int .i64) (.pair .str (.int .i64)))), .one (.i .i64)], boxes := [], res := [.one (.i .i64)], rbox := [], frz := [] }
def L35 : Nat → Option LoopRec := fun n => match n with
 | 0 => some { head := { live := [0, 1, 5, 6], lbox := [], vs := [.slot 1 (.i .i64), .slot 5 (.i .i64), .slot 6 (.i .i64)] }, exits := [(.ret, { live := [4], lbox := [], vs := [.slot 4 (.i .i64)] }), (.exit 0, { live := [0, 5, 6], lbox := [], vs := [.slot 5 (.i .i64), .slot 6 (.i .i64)] })] }
 | 1 => some { head := { live := [0, 5, 6], lbox := [], vs := [.slot 5 (.i .i64), .slot 6 (.i .i64)] }, exits := [(.exit 3, { live := [5], lbox := [], vs := [.slot 5 (.i .i64)] })] }
 | _ => none
set_option maxRecDepth 100000 in
theorem run35 : ∀ x, gives F35 L35 f35 S35 x = (fun x => segment_Place x.1 x.2) x := by
 intro x
 kernel_rfl
theorem fn35 : FnCalls prog 35 (S35.F (fun x => segment_Place x.1 x.2)) := fn_sig (F := F35) (tbl := L35) func35 (by kernel_rfl) mix (cok_list (l := [(34, C34), (66, C66)]) (tabsT rfl rfl) rfl (List.forall_mem_cons.2 ⟨G34, List.forall_mem_cons.2 ⟨G66, by simp⟩⟩)) (by kernel_rfl) (by kernel_rfl) (by decide) (fun _ => by kernel_rfl) run35
def C35 : Con := S35.con (by kernel_rfl) (fun x => segment_Place x.1 x.2)
theorem G35 : Good1 prog (35, C35) := good_of func35 (by kernel_rfl) (by kernel_rfl) fn35
end Go.Proofs.YtmoineigflegeaaGreatDoor.ve
namespace Go.Proofs.YtmoineigflegeaaGreatDoor.ve
open Go Go.Vs Go.Ve Go.Fn Go.Proofs.Tryz
set_option linter.unusedVariables false
def F37 : VFE := { cfg := { N := 37, T := T, R := R, con := fun _ f => lkF f [(68, C68)], var := [0, 1, 2, 3, 4, 5, 6], res := [2], eqs := EQ }, keys := [0, 2, 3, 5, 6, 7, 8, 9, 10, 15, 23], bkeys := [.loc 5] }
def S37 : Sig := { args := [.one (.n .data (.pair (.int .i64) (.pair .str (.int .i64))))], boxes := [], res := [.one (.n .own .bool)], rbox := [], frz := [] }
def L37 : Nat → Option LoopRec := fun n => match n with
 | 0 => some { head := { live := [3, 7, 8, 9], lbox := [], vs := [.slot 3 (.n .own .bool), .slot 9 (.i .i64)] }, exits := [(.exit 0, { live := [3], lbox := [], vs := [.slot 3 (.n .own .bool)] })] }
 | 1 => some { head := { live := [3, 5, 6, 7, 8, 9], lbox := [(.loc 5)], vs := [.slot 3 (.n .own .bool), .slot 6 (.i .i64)] }, exits := [(.exit 2, { live := [3, 7, 8, 9], lbox := [], vs := [.slot 3 (.n .own .bool)] })] }
 | _ => none
set_option maxRecDepth 100000 in
theorem run37 : ∀ x, gives F37 L37 f37 S37 x = (fun x => segment_blanks x) x := by
 intro x
 kernel_rfl
theorem fn37 : FnCalls prog 37 (S37.F (fun x => segment_blanks x)) := fn_sig (F := F37) (tbl := L37) func37 (by kernel_rfl) mix (cok_list (l := [(68, C68)]) (tabsT rfl rfl) rfl (List.forall_mem_cons.2 ⟨G68, by simp⟩)) (by kernel_rfl) (by kernel_rfl) (by decide) (fun _ => by kernel_rfl) run37
def C37 : Con := S37.con (by kernel_rfl) (fun x => segment_blanks x)
theorem G37 : Good1 prog (37, C37) := good_of func37 (by kernel_rfl) (by kernel_rfl) fn37
end Go.Proofs.YtmoineigflegeaaGreatDoor.ve
namespace Go.Proofs.YtmoineigflegeaaGreatDoor.ve
open Go Go.Vs Go.Ve Go.Fn Go.Proofs.Tryz
set_option linter.unusedVariables false
def F122 : VFE := { cfg := { N := 16, T := T, R := R, con := fun _ f => lkF f [], var := [0, 1, 2], res := [2], eqs := EQ }, keys := [0, 1, 2], bkeys := [.loc 1] }
def S122 : Sig := { args := [.row (.pair (.int .i64) (.pair .str (.int .i64)))], boxes := [], res := [.one .b], rbox := [], frz := [] }
def L122 : Nat → Option LoopRec := fun _ => none
set_option maxRecDepth 100000 in
theorem run122 : ∀ x, gives F122 L122 f122 S122 x = (fun x => item_isTag x) x := by
 intro x
 kernel_rfl
theorem fn122 : FnCalls prog 122 (S122.F (fun x => item_isTag x)) := fn_sig (F := F122) (tbl := L122) func122 (by kernel_rfl) mix (cok_list (l := []) (tabsT rfl rfl) rfl (by simp)) (by kernel_rfl) (by kernel_rfl) (by decide) (fun _ => by kernel_rfl) run122
def C122 : Con := S122.con (by kernel_rfl) (fun x => item_isTag x)
theorem G122 : Good1 prog (122, C122) := good_of func122 (by kernel_rfl) (by kernel_rfl) fn122
end Go.Proofs.YtmoineigflegeaaGreatDoor.ve
namespace Go.Proofs.YtmoineigflegeaaGreatDoor.ve
open Go Go.Vs Go.Ve Go.Fn Go.Proofs.Tryz
set_option linter.unusedVariables false
def F101 : VFE := { cfg := { N := 19, T := T, R := R, con := fun _ f => lkF f [], var := [0, 1, 2, 3, 4], res := [2], eqs := EQ }, keys := [0, 2, 3, 4, 8, 9, 10], bkeys := [] }
def S101 : Sig := { args := [.one (.i .i64)], boxes := [], res := [.one (.n .own (.int .i64))], rbox := [], frz := [] }
def L101 : Nat → Option LoopRec := fun n => match n with
 | 0 => some { head := { live := [3, 8, 9], lbox := [], vs := [.slot 3 (.l .own (.int .i64)), .slot 9 (.i .i64)] }, exits := [(.exit 0, { live := [3], lbox := [], vs := [.slot 3 (.l .own (.int .i64))] })] }
 | _ => none
set_option maxRecDepth 100000 in
theorem run101 : ∀ x, gives F101 L101 f101 S101 x = (fun x => item_counting x) x := by
 intro x
 kernel_rfl
theorem fn101 : FnCalls prog 101 (S101.F (fun x => item_counting x)) := fn_sig (F := F101) (tbl := L101) func101 (by kernel_rfl) mix (cok_list (l := []) (tabsT rfl rfl) rfl (by simp)) (by kernel_rfl) (by kernel_rfl) (by decide) (fun _ => by kernel_rfl) run101
def C101 : Con := S101.con (by kernel_rfl) (fun x => item_counting x)
theorem G101 : Good1 prog (101, C101) := good_of func101 (by kernel_rfl) (by kernel_rfl) fn101
end Go.Proofs.YtmoineigflegeaaGreatDoor.ve
namespace Go.Proofs.YtmoineigflegeaaGreatDoor.ve
open Go Go.Vs Go.Ve Go.Fn Go.Proofs.Tryz
set_option linter.unusedVariables false
def F135 : VFE := { cfg := { N := 30, T := T, R := R, con := fun _ f => lkF f [(68, C68)], var := [0, 1, 2], res := [2], eqs := EQ }, keys := [0, 2], bkeys := [] }
def S135 : Sig := { args := [.one (.i .u8)], boxes := [], res := [.one .b], rbox := [], frz := [] }
def L135 : Nat → Option LoopRec := fun _ => none
set_option maxRecDepth 100000 in
theorem run135 : ∀ x, gives F135 L135 f135 S135 x = (fun x => notation_plain x) x := by
 intro x
 kernel_rfl
theorem fn135 : FnCalls prog 135 (S135.F (fun x => notation_plain x)) := fn_sig (F := F135) (tbl := L135) func135 (by kernel_rfl) mix (cok_list (l := [(68, C68)]) (tabsT rfl rfl) rfl (List.forall_mem_cons.2 ⟨G68, by simp⟩)) (by kernel_rfl) (by kernel_rfl) (by decide) (fun _ => by kernel_rfl) run135
def C135 : Con := S135.con (by kernel_rfl) (fun x => notation_plain x)
theorem G135 : Good1 prog (135, C135) := good_of func135 (by kernel_rfl) (by kernel_rfl) fn135
end Go.Proofs.YtmoineigflegeaaGreatDoor.ve
namespace Go.Proofs.YtmoineigflegeaaGreatDoor.ve
open Go Go.Vs Go.Ve Go.Fn Go.Proofs.Tryz
set_option linter.unusedVariables false
def F98 : VFE := { cfg := { N := 60, T := T, R := R, con := fun _ f => lkF f [(135, C135)], var := [0, 1, 2, 3, 4, 5, 6, 25, 32, 38, 44], res := [4], eqs := EQ }, keys := [0, 1, 4, 5, 6, 10, 25, 32, 38, 44], bkeys := [] }
def S98 : Sig := { args := [.one (.n .data (.int .u8)), .one .s], boxes := [], res := [.one (.n .own (.int .u8))], rbox := [], frz := [] }
def L98 : Nat → Option LoopRec := fun n => match n with
 | 0 => some { head := { live := [0, 1, 5], lbox := [], vs := [.slot 0 (.n .data (.int .u8)), .slot 5 (.i .i64)] }, exits := [(.exit 0, { live := [0], lbox := [], vs := [.slot 0 (.n .data (.int .u8))] })] }
 | _ => none
set_option maxRecDepth 100000 in
theorem run98 : ∀ x, gives F98 L98 f98 S98 x = (fun x => notation_appendText x.1 x.2) x := by
 intro x
 kernel_rfl
theorem fn98 : FnCalls prog 98 (S98.F (fun x => notation_appendText x.1 x.2)) := fn_sig (F := F98) (tbl := L98) func98 (by kernel_rfl) mix (cok_list (l := [(135, C135)]) (tabsT rfl rfl) rfl (List.forall_mem_cons.2 ⟨G135, by simp⟩)) (by kernel_rfl) (by kernel_rfl) (by decide) (fun _ => by kernel_rfl) run98
def C98 : Con := S98.con (by kernel_rfl) (fun x => notation_appendText x.1 x.2)
theorem G98 : Good1 prog (98, C98) := good_of func98 (by kernel_rfl) (by kernel_rfl) fn98
end Go.Proofs.YtmoineigflegeaaGreatDoor.ve
namespace Go.Proofs.YtmoineigflegeaaGreatDoor.ve
open Go Go.Vs Go.Ve Go.Fn Go.Proofs.Tryz
set_option linter.unusedVariables false
def F88 : VFE := { cfg := { N := 8, T := T, R := R, con := fun _ f => lkF f [], var := [0, 1, 2], res := [2], eqs := EQ }, keys := [0, 2, 4], bkeys := [] }
def S88 : Sig := { args := [.one (.n .data (.pair (.pair (.int .u8) (.pair (.int .u8) (.pair (.int .u8) (.pair (.int .u8) (.pair (.int .u8) (.pair (.int .u8) (.pair (.int .u8) (.pair (.int .u8) (.pair (.int .u8) (.pair (.int .u8) (.pair (.int .u8) (.pair (.int .u8) (.pair (.int .u8) (.pair (.int .u8) (.pair (.int .u8) (.pair (.int .u8) (.pair (.int .u8) (.pair (.int .u8) (.pair (.int .u8) (.pair (.int .u8) (.pair (.int .u8) (.pair (.int .u8) (.pair (.int .u8) (.pair (.int .u8) (.pair (.int .u8) (.pair (.int .u8) (.pair (.int .u8) (.pair (.int .u8) (.pair (.int .u8) (.pair (.int .u8) (.pair (.int .u8) (.int .u8)))))))))))))))))))))))))))))))) (.pair (.int .i64) .bool)))], boxes := [], res := [.one (.n .own (.pair (.pair (.int .u8) (.pair (.int .u8) (.pair (.int .u8) (.pair (.int .u8) (.pair (.int .u8) (.pair (.int .u8) (.pair (.int .u8) (.pair (.int .u8) (.pair (.int .u8) (.pair (.int .u8) (.pair (.int .u8) (.pair (.int .u8) (.pair (.int .u8) (.pair (.int .u8) (.pair (.int .u8) (.pair (.int .u8) (.pair (.int .u8) (.pair (.int .u8) (.pair (.int .u8) (.pair (.int .u8) (.pair (.int .u8) (.pair (.int .u8) (.pair (.int .u8) (.pair (.int .u8) (.pair (.int .u8) (.pair (.int .u8) (.pair (.int .u8) (.pair (.int .u8) (.pair (.int .u8) (.pair (.int .u8) (.pair (.int .u8) (.int .u8)))))))))))))))))))))))))))))))) (.pair (.int .i64) .bool)))], rbox := [], frz := [] }
def L88 : Nat → Option LoopRec := fun _ => none
set_option maxRecDepth 100000 in
theorem run88 : ∀ x, gives F88 L88 f88 S88 x = (fun x => slices_Clone_api_Atom x) x := by
 intro x
 kernel_rfl
theorem fn88 : FnCalls prog 88 (S88.F (fun x => slices_Clone_api_Atom x)) := fn_sig (F := F88) (tbl := L88) func88 (by kernel_rfl) mix (cok_list (l := []) (tabsT rfl rfl) rfl (by simp)) (by kernel_rfl) (by kernel_rfl) (by decide) (fun _ => by kernel_rfl) run88
def C88 : Con := S88.con (by kernel_rfl) (fun x => slices_Clone_api_Atom x)
theorem G88 : Good1 prog (88, C88) := good_of func88 (by kernel_rfl) (by kernel_rfl) fn88
end Go.Proofs.YtmoineigflegeaaGreatDoor.ve
namespace Go.Proofs.YtmoineigflegeaaGreatDoor.ve
open Go Go.Vs Go.Ve Go.Fn Go.Proofs.Tryz
set_option linter.unusedVariables false
def F65 : VFE := { cfg := { N := 9, T := T, R := R, con := fun _ f => lkF f [(88, C88)], var := [0, 1, 2, 3], res := [2], eqs := EQ }, keys := [0, 2, 3], bkeys := [] }
def S65 : Sig := { args := [.one (.n .data (.pair (.pair (.int .u8) (.pair (.int .u8) (.pair (.int .u8) (.pair (.int .u8) (.pair (.int .u8) (.pair (.int .u8) (.pair (.int .u8) (.pair (.int .u8) (.pair (.int .u8) (.pair (.int .u8) (.pair (.int .u8) (.pair (.int .u8) (.pair (.int .u8) (.pair (.int .u8) (.pair (.int .u8) (.pair (.int .u8) (.pair (.int .u8) (.pair (.int .u8) (.pair (.int .u8) (.pair (.int .u8) (.pair (.int .u8) (.pair (.int .u8) (.pair (.int .u8) (.pair (.int .u8) (.pair (.int .u8) (.pair (.int .u8) (.pair (.int .u8) (.pair (.int .u8) (.pair (.int .u8) (.pair (.int .u8) (.pair (.int .u8) (.int .u8)))))))))))))))))))))))))))))))) (.pair (.int .i64) .bool)))], boxes := [], res := [.one (.n .own (.pair (.pair (.int .u8) (.pair (.int .u8) (.pair (.int .u8) (.pair (.int .u8) (.pair (.int .u8) (.pair (.int .u8) (.pair (.int .u8) (.pair (.int .u8) (.pair (.int .u8) (.pair (.int .u8) (.pair (.int .u8) (.pair (.int .u8) (.pair (.int .u8) (.pair (.int .u8) (.pair (.int .u8) (.pair (.int .u8) (.pair (.int .u8) (.pair (.int .u8) (.pair (.int .u8) (.pair (.int .u8) (.pair (.int .u8) (.pair (.int .u8) (.pair (.int .u8) (.pair (.int .u8) (.pair (.int .u8) (.pair (.int .u8) (.pair (.int .u8) (.pair (.int .u8) (.pair (.int .u8) (.pair (.int .u8) (.pair (.int .u8) (.int .u8)))))))))))))))))))))))))))))))) (.pair (.int .i64) .bool)))], rbox := [], frz := [] }
def L65 : Nat → Option LoopRec := fun _ => none
set_option maxRecDepth 100000 in
theorem run65 : ∀ x, gives F65 L65 f65 S65 x = (fun x => pattern_Reverse x) x := by
 intro x
 kernel_rfl
theorem fn65 : FnCalls prog 65 (S65.F (fun x => pattern_Reverse x)) := fn_sig (F := F65) (tbl := L65) func65 (by kernel_rfl) mix (cok_list (l := [(88, C88)]) (tabsT rfl rfl) rfl (List.forall_mem_cons.2 ⟨G88, by simp⟩)) (by kernel_rfl) (by kernel_rfl) (by decide) (fun _ => by kernel_rfl) run65
def C65 : Con := S65.con (by kernel_rfl) (fun x => pattern_Reverse x)
theorem G65 : Good1 prog (65, C65) := good_of func65 (by kernel_rfl) (by kernel_rfl) fn65
end Go.Proofs.YtmoineigflegeaaGreatDoor.ve
namespace Go.Proofs.YtmoineigflegeaaGreatDoor.ve
open Go Go.Vs Go.Ve Go.Fn Go.Proofs.Tryz
set_option linter.unusedVariables false
def F189 : VFE := { cfg := { N := 15, T := T, R := R, con := fun _ f => lkF f [], var := [0, 1, 2], res := [2], eqs := EQ }, keys := [0, 2, 4], bkeys := [] }
def S189 : Sig := { args := [.one (.i .i64)], boxes := [], res := [.one .s], rbox := [], frz := [] }
def L189 : Nat → Option LoopRec := fun _ => none
set_option maxRecDepth 100000 in
theorem run189 : ∀ x, gives F189 L189 f189 S189 x = (fun x => internal_strconv_small x) x := by
 intro x
 kernel_rfl
theorem fn189 : FnCalls prog 189 (S189.F (fun x => internal_strconv_small x)) := fn_sig (F := F189) (tbl := L189) func189 (by kernel_rfl) mix (cok_list (l := []) (tabsT rfl rfl) rfl (by simp)) (by kernel_rfl) (by kernel_rfl) (by decide) (fun _ => by kernel_rfl) run189
def C189 : Con := S189.con (by kernel_rfl) (fun x => internal_strconv_small x)
theorem G189 : Good1 prog (189, C189) := good_of func189 (by kernel_rfl) (by kernel_rfl) fn189
end Go.Proofs.YtmoineigflegeaaGreatDoor.ve
namespace Go.Proofs.YtmoineigflegeaaGreatDoor.ve
open Go Go.Vs Go.Ve Go.Fn Go.Proofs.Tryz
set_option linter.unusedVariables false
def F163 : VFE := { cfg := { N := 54, T := T, R := R, con := fun _ f => lkF f [(189, C189)], var := [0, 1, 2, 3, 4, 5, 6, 7, 8, 9], res := [4], eqs := EQ }, keys := [0, 1, 4, 5, 6, 7, 9, 11, 17, 23, 34], bkeys := [.loc 5] }
def S163 : Sig := { args := [.one (.i .i64), .one (.i .i64)], boxes := [], res := [.one .s], rbox := [], frz := [] }
def L163 : Nat → Option LoopRec := fun _ => none
set_option maxRecDepth 100000 in
theorem run163 : ∀ x, gives F163 L163 f163 S163 x = (fun x => internal_strconv_FormatInt x.1 x.2) x := by
 intro x
 kernel_rfl
theorem fn163 : FnCalls prog 163 (S163.F (fun x => internal_strconv_FormatInt x.1 x.2)) := fn_sig (F := F163) (tbl := L163) func163 (by kernel_rfl) mix (cok_list (l := [(189, C189)]) (tabsT rfl rfl) rfl (List.forall_mem_cons.2 ⟨G189, by simp⟩)) (by kernel_rfl) (by kernel_rfl) (by decide) (fun _ => by kernel_rfl) run163
def C163 : Con := S163.con (by kernel_rfl) (fun x => internal_strconv_FormatInt x.1 x.2)
theorem G163 : Good1 prog (163, C163) := good_of func163 (by kernel_rfl) (by kernel_rfl) fn163
end Go.Proofs.YtmoineigflegeaaGreatDoor.ve
namespace Go.Proofs.YtmoineigflegeaaGreatDoor.ve
open Go Go.Vs Go.Ve Go.Fn Go.Proofs.Tryz
set_option linter.unusedVariables false
def F134 : VFE := { cfg := { N := 5, T := T, R := R, con := fun _ f => lkF f [(163, C163)], var := [0, 1, 2], res := [2], eqs := EQ }, keys := [0, 2], bkeys := [] }
def S134 : Sig := { args := [.one (.i .i64)], boxes := [], res := [.one .s], rbox := [], frz := [] }
def L134 : Nat → Option LoopRec := fun _ => none
set_option maxRecDepth 100000 in
theorem run134 : ∀ x, gives F134 L134 f134 S134 x = (fun x => internal_strconv_Itoa x) x := by
 intro x
 kernel_rfl
theorem fn134 : FnCalls prog 134 (S134.F (fun x => internal_strconv_Itoa x)) := fn_sig (F := F134) (tbl := L134) func134 (by kernel_rfl) mix (cok_list (l := [(163, C163)]) (tabsT rfl rfl) rfl (List.forall_mem_cons.2 ⟨G163, by simp⟩)) (by kernel_rfl) (by kernel_rfl) (by decide) (fun _ => by kernel_rfl) run134
def C134 : Con := S134.con (by kernel_rfl) (fun x => internal_strconv_Itoa x)
theorem G134 : Good1 prog (134, C134) := good_of func134 (by kernel_rfl) (by kernel_rfl) fn134
end Go.Proofs.YtmoineigflegeaaGreatDoor.ve
namespace Go.Proofs.YtmoineigflegeaaGreatDoor.ve
open Go Go.Vs Go.Ve Go.Fn Go.Proofs.Tryz
set_option linter.unusedVariables false
def F97 : VFE := { cfg := { N := 5, T := T, R := R, con := fun _ f => lkF f [(134, C134)], var := [0, 1, 2], res := [2], eqs := EQ }, keys := [0, 2], bkeys := [] }
def S97 : Sig := { args := [.one (.i .i64)], boxes := [], res := [.one .s], rbox := [], frz := [] }
def L97 : Nat → Option LoopRec := fun _ => none
set_option maxRecDepth 100000 in
theorem run97 : ∀ x, gives F97 L97 f97 S97 x = (fun x => strconv_Itoa_b1 x) x := by
 intro x
 kernel_rfl
theorem fn97 : FnCalls prog 97 (S97.F (fun x => strconv_Itoa_b1 x)) := fn_sig (F := F97) (tbl := L97) func97 (by kernel_rfl) mix (cok_list (l := [(134, C134)]) (tabsT rfl rfl) rfl (List.forall_mem_cons.2 ⟨G134, by simp⟩)) (by kernel_rfl) (by kernel_rfl) (by decide) (fun _ => by kernel_rfl) run97
def C97 : Con := S97.con (by kernel_rfl) (fun x => strconv_Itoa_b1 x)
theorem G97 : Good1 prog (97, C97) := good_of func97 (by kernel_rfl) (by kernel_rfl) fn97
end Go.Proofs.YtmoineigflegeaaGreatDoor.ve
namespace Go.Proofs.YtmoineigflegeaaGreatDoor.ve
open Go Go.Vs Go.Ve Go.Fn Go.Proofs.Tryz
set_option linter.unusedVariables false
def F16 : VFE := { cfg := { N := 22, T := T, R := R, con := fun _ f => lkF f [], var := [0, 1, 2, 3, 4, 5], res := [2], eqs := EQ }, keys := [0, 1, 2, 3, 4, 5, 7, 8, 9, 10, 15], bkeys := [.loc 1, .loc 5] }
def S16 : Sig := { args := [.row (.pair (.int .i64) (.sl (.pair .bool (.pair .str .str))))], boxes := [], res := [.one (.n .own (.int .i64))], rbox := [], frz := [] }
def L16 : Nat → Option LoopRec := fun _ => none
set_option maxRecDepth 100000 in
theorem run16 : ∀ x, gives F16 L16 f16 S16 x = (fun x => document_Units x) x := by
 intro x
 kernel_rfl
theorem fn16 : FnCalls prog 16 (S16.F (fun x => document_Units x)) := fn_sig (F := F16) (tbl := L16) func16 (by kernel_rfl) mix (cok_list (l := []) (tabsT rfl rfl) rfl (by simp)) (by kernel_rfl) (by kernel_rfl) (by decide) (fun _ => by kernel_rfl) run16
def C16 : Con := S16.con (by kernel_rfl) (fun x => document_Units x)
theorem G16 : Good1 prog (16, C16) := good_of func16 (by kernel_rfl) (by kernel_rfl) fn16
end Go.Proofs.YtmoineigflegeaaGreatDoor.ve
namespace Go.Proofs.YtmoineigflegeaaGreatDoor.ve
open Go Go.Vs Go.Ve Go.Fn Go.Proofs.Tryz
set_option linter.unusedVariables false
def F61 : VFE := { cfg := { N := 8, T := T, R := R, con := fun _ f => lkF f [], var := [0, 1, 2], res := [2], eqs := EQ }, keys := [0, 2, 4], bkeys := [] }
def S61 : Sig := { args := [.one (.n .data (.pair (.int .i64) (.pair .str (.int .i64))))], boxes := [], res := [.one (.n .own (.pair (.int .i64) (.pair .str (.int .i64))))], rbox := [], frz := [] }
def L61 : Nat → Option LoopRec := fun _ => none
set_option maxRecDepth 100000 in
theorem run61 : ∀ x, gives F61 L61 f61 S61 x = (fun x => slices_Clone_api_Item x) x := by
 intro x
 kernel_rfl
theorem fn61 : FnCalls prog 61 (S61.F (fun x => slices_Clone_api_Item x)) := fn_sig (F := F61) (tbl := L61) func61 (by kernel_rfl) mix (cok_list (l := []) (tabsT rfl rfl) rfl (by simp)) (by kernel_rfl) (by kernel_rfl) (by decide) (fun _ => by kernel_rfl) run61
def C61 : Con := S61.con (by kernel_rfl) (fun x => slices_Clone_api_Item x)
theorem G61 : Good1 prog (61, C61) := good_of func61 (by kernel_rfl) (by kernel_rfl) fn61
end Go.Proofs.YtmoineigflegeaaGreatDoor.ve
namespace Go.Proofs.YtmoineigflegeaaGreatDoor.vx
open Go Go.Vs Go.Proofs.Tryz
def T : List (TypeId × TI) := [(1, ⟨1, 8, .func, (some [.nul .func])⟩),
 (2, ⟨1, 8, .int .i64, (some [.int .i64 0])⟩),
 (3, ⟨1, 8, .int .i64, (some [.int .i64 0])⟩),
 (4, ⟨1, 1, .bool, (some [.bool false])⟩),
 (5, ⟨1, 1, .int .u8, (some [.int .u8 0])⟩),
 (9, ⟨1, 16, .str, (some [.str []])⟩),
 (21, ⟨1, 4, .int .i32, (some [.int .i32 0])⟩),
 (23, ⟨1, 24, .slice 68, (some [.nil])⟩),
 (25, ⟨2, 32, .struct [(0, 3), (1, 23)], (some [.int .i64 0, .nil])⟩),
 (26, ⟨1, 8, .int .i64, (some [.int .i64 0])⟩),
 (29, ⟨1, 24, .slice 25, (some [.nil])⟩),
 (30, ⟨1, 24, .slice 55, (some [.nil])⟩),
 (32, ⟨3, 56, .struct [(0, 29), (1, 30), (2, 3)], (some [.nil, .nil, .int .i64 0])⟩),
 (36, ⟨1, 24, .slice 3, (some [.nil])⟩),
 (43, ⟨1, 24, .slice 96, (some [.nil])⟩),
 (46, ⟨1, 8, .map 3 51, (some [.nul .map])⟩),
 (49, ⟨1, 24, .slice 53, (some [.nil])⟩),
 (51, ⟨1, 24, .slice 107, (some [.nil])⟩),
 (53, ⟨2, 16, .struct [(0, 3), (1, 3)], (some [.int .i64 0, .int .i64 0])⟩),
 (55, ⟨10, 104, .struct [(0, 3), (1, 3), (2, 3), (3, 53), (5, 3), (6, 51), (7, 9), (8, 3), (9, 4)], (some [.int .i64 0, .int .i64 0, .int .i64 0, .int .i64 0, .int .i64 0, .int .i64 0, .nil, .str [], .int .i64 0, .bool false])⟩),
 (56, ⟨1, 8, .ptr 85, (some [.nul .ptr])⟩),
 (68, ⟨3, 40, .struct [(0, 4), (1, 9), (2, 9)], (some [.bool false, .str [], .str []])⟩),
 (77, ⟨1, 24, .slice 4, (some [.nil])⟩),
 (83, ⟨1, 8, .map 87 51, (some [.nul .map])⟩),
 (85, ⟨4, 64, .struct [(0, 32), (3, 83)], (some [.nil, .nil, .int .i64 0, .nul .map])⟩),
 (87, ⟨2, 16, .struct [(0, 3), (1, 3)], (some [.int .i64 0, .int .i64 0])⟩),
 (88, ⟨1, 8, .map 3 90, (some [.nul .map])⟩),
 (90, ⟨0, 0, .struct [], (some [])⟩),
 (91, ⟨32, 32, .array 32 5, (some [.int .u8 0, .int .u8 0, .int .u8 0, .int .u8 0, .int .u8 0, .int .u8 0, .int .u8 0, .int .u8 0, .int .u8 0, .int .u8 0, .int .u8 0, .int .u8 0, .int .u8 0, .int .u8 0, .int .u8 0, .int .u8 0, .int .u8 0, .int .u8 0, .int .u8 0, .int .u8 0, .int .u8 0, .int .u8 0, .int .u8 0, .int .u8 0, .int .u8 0, .int .u8 0, .int .u8 0, .int .u8 0, .int .u8 0, .int .u8 0, .int .u8 0, .int .u8 0])⟩),
 (93, ⟨34, 48, .struct [(0, 91), (32, 3), (33, 4)], (some [.int .u8 0, .int .u8 0, .int .u8 0, .int .u8 0, .int .u8 0, .int .u8 0, .int .u8 0, .int .u8 0, .int .u8 0, .int .u8 0, .int .u8 0, .int .u8 0, .int .u8 0, .int .u8 0, .int .u8 0, .int .u8 0, .int .u8 0, .int .u8 0, .int .u8 0, .int .u8 0, .int .u8 0, .int .u8 0, .int .u8 0, .int .u8 0, .int .u8 0, .int .u8 0, .int .u8 0, .int .u8 0, .int .u8 0, .int .u8 0, .int .u8 0, .int .u8 0, .int .i64 0, .bool false])⟩),
 (94, ⟨1, 24, .slice 93, (some [.nil])⟩),
 (96, ⟨3, 56, .struct [(0, 4), (1, 94), (2, 94)], (some [.bool false, .nil, .nil])⟩),
 (101, ⟨1, 8, .ptr 103, (some [.nul .ptr])⟩),
 (103, ⟨3, 48, .struct [(0, 9), (1, 23), (2, 3)], (some [.str [], .nil, .int .i64 0])⟩),
 (107, ⟨3, 32, .struct [(0, 3), (1, 9), (2, 3)], (some [.int .i64 0, .str [], .int .i64 0])⟩),
 (121, ⟨1, 8, .ptr 124, (some [.nul .ptr])⟩),
 (122, ⟨1, 24, .slice 5, (some [.nil])⟩),
 (124, ⟨2, 32, .struct [(0, 121), (1, 122)], (some [.nul .ptr, .nil])⟩),
 (126, ⟨1, 16, .iface, (some [.nul .iface])⟩),
 (146, ⟨1, 8, .ptr 5, (some [.nul .ptr])⟩),
 (151, ⟨1, 8, .func, (some [.nul .func])⟩),
 (156, ⟨1, 24, .slice 51, (some [.nil])⟩),
 (162, ⟨1, 8, .ptr 218, (some [.nul .ptr])⟩),
 (168, ⟨1, 8, .map 9 4, (some [.nul .map])⟩),
 (173, ⟨1, 8, .ptr 175, (some [.nul .ptr])⟩),
 (175, ⟨6, 56, .struct [(0, 9), (1, 162), (2, 3), (3, 3), (4, 3), (5, 3)], (some [.str [], .nul .ptr, .int .i64 0, .int .i64 0, .int .i64 0, .int .i64 0])⟩),
 (180, ⟨1, 8, .ptr 187, (some [.nul .ptr])⟩),
 (185, ⟨3, 72, .struct [(0, 51), (1, 122), (2, 36)], (some [.nil, .nil, .nil])⟩),
 (187, ⟨5, 104, .struct [(0, 185), (3, 51), (4, 3)], (some [.nil, .nil, .nil, .nil, .int .i64 0])⟩),
 (188, ⟨1, 8, .ptr 192, (some [.nul .ptr])⟩),
 (192, ⟨5, 88, .struct [(0, 185), (3, 3), (4, 3)], (some [.nil, .nil, .nil, .int .i64 0, .int .i64 0])⟩),
 (193, ⟨1, 8, .ptr 185, (some [.nul .ptr])⟩),
 (202, ⟨1, 8, .map 107 3, (some [.nul .map])⟩),
 (204, ⟨1, 24, .slice 9, (some [.nil])⟩),
 (211, ⟨1, 8, .int .u64, (some [.int .u64 0])⟩),
 (212, ⟨1, 8, .map 3 4, (some [.nul .map])⟩),
 (213, ⟨1, 8, .map 3 3, (some [.nul .map])⟩),
 (214, ⟨5, 80, .array 5 9, (some [.str [], .str [], .str [], .str [], .str []])⟩),
 (216, ⟨6, 96, .array 6 9, (some [.str [], .str [], .str [], .str [], .str [], .str []])⟩),
 (218, ⟨3, 48, .struct [(0, 9), (1, 3), (2, 23)], (some [.str [], .int .i64 0, .nil])⟩),
 (238, ⟨1, 8, .ptr 234, (some [.nul .ptr])⟩),
 (249, ⟨1, 8, .ptr 286, (some [.nul .ptr])⟩),
 (252, ⟨24, 24, .array 24 5, (some [.int .u8 0, .int .u8 0, .int .u8 0, .int .u8 0, .int .u8 0, .int .u8 0, .int .u8 0, .int .u8 0, .int .u8 0, .int .u8 0, .int .u8 0, .int .u8 0, .int .u8 0, .int .u8 0, .int .u8 0, .int .u8 0, .int .u8 0, .int .u8 0, .int .u8 0, .int .u8 0, .int .u8 0, .int .u8 0, .int .u8 0, .int .u8 0])⟩),
 (253, ⟨1, 8, .int .u64, (some [.int .u64 0])⟩),
 (258, ⟨1, 4, .int .u32, (some [.int .u32 0])⟩),
 (266, ⟨1, 8, .int .i64, (some [.int .i64 0])⟩),
 (273, ⟨0, 0, .struct [], (some [])⟩),
 (274, ⟨0, 0, .struct [], (some [])⟩),
 (276, ⟨1, 4, .struct [(0, 274), (0, 258)], (some [.int .u32 0])⟩),
 (278, ⟨2, 8, .struct [(0, 21), (1, 258)], (some [.int .i32 0, .int .u32 0])⟩),
 (280, ⟨2, 8, .struct [(0, 273), (0, 278)], (some [.int .i32 0, .int .u32 0])⟩),
 (282, ⟨3, 12, .struct [(0, 273), (0, 276), (1, 280)], (some [.int .u32 0, .int .i32 0, .int .u32 0])⟩),
 (284, ⟨1, 16, .iface, (some [.nul .iface])⟩),
 (286, ⟨5, 56, .struct [(0, 282), (3, 284), (4, 204)], (some [.int .u32 0, .int .i32 0, .int .u32 0, .nul .iface, .nil])⟩),
 (289, ⟨20, 160, .array 20 253, (some [.int .u64 0, .int .u64 0, .int .u64 0, .int .u64 0, .int .u64 0, .int .u64 0, .int .u64 0, .int .u64 0, .int .u64 0, .int .u64 0, .int .u64 0, .int .u64 0, .int .u64 0, .int .u64 0, .int .u64 0, .int .u64 0, .int .u64 0, .int .u64 0, .int .u64 0, .int .u64 0])⟩),
 (292, ⟨1, 8, .int .u64, (some [.int .u64 0])⟩),
 (296, ⟨1, 8, .ptr 3, (some [.nul .ptr])⟩),
 (298, ⟨1, 8, .ptr 282, (some [.nul .ptr])⟩),
 (302, ⟨2, 2, .struct [(0, 5), (1, 5)], (some [.int .u8 0, .int .u8 0])⟩),
 (303, ⟨32, 32, .array 16 302, (some [.int .u8 0, .int .u8 0, .int .u8 0, .int .u8 0, .int .u8 0, .int .u8 0, .int .u8 0, .int .u8 0, .int .u8 0, .int .u8 0, .int .u8 0, .int .u8 0, .int .u8 0, .int .u8 0, .int .u8 0, .int .u8 0, .int .u8 0, .int .u8 0, .int .u8 0, .int .u8 0, .int .u8 0, .int .u8 0, .int .u8 0, .int .u8 0, .int .u8 0, .int .u8 0, .int .u8 0, .int .u8 0, .int .u8 0, .int .u8 0, .int .u8 0, .int .u8 0])⟩),
 (305, ⟨1, 8, .ptr 292, (some [.nul .ptr])⟩),
 (307, ⟨1, 8, .ptr 276, (some [.nul .ptr])⟩),
 (309, ⟨1, 8, .ptr 258, (some [.nul .ptr])⟩),
 (311, ⟨1, 8, .ptr 328, (some [.nul .ptr])⟩),
 (313, ⟨1, 8, .ptr 334, (some [.nul .ptr])⟩),
 (322, ⟨1, 8, .ptr 280, (some [.nul .ptr])⟩),
 (325, ⟨1, 8, .ptr 344, (some [.nul .ptr])⟩),
 (328, ⟨2, 24, .struct [(0, 325), (1, 9)], (some [.nul .ptr, .str []])⟩),
 (329, ⟨1, 8, .ptr 332, (some [.nul .ptr])⟩),
 (330, ⟨1, 24, .slice 329, (some [.nil])⟩),
 (332, ⟨5, 72, .struct [(0, 9), (1, 3), (2, 9), (3, 329), (4, 330)], (some [.str [], .int .i64 0, .str [], .nul .ptr, .nil])⟩),
 (336, ⟨1, 8, .ptr 278, (some [.nul .ptr])⟩),
 (338, ⟨1, 8, .ptr 21, (some [.nul .ptr])⟩)]
set_option maxRecDepth 100000 in
theorem T_ok : AllP (fun x => tiOf prog x.1 = some x.2) T := ⟨by show tiOf prog _ = some _; kernel_rfl, by show tiOf prog _ = some _; kernel_rfl, by show tiOf prog _ = some _; kernel_rfl, by show tiOf prog _ = some _; kernel_rfl, by show tiOf prog _ = some _; kernel_rfl, by show tiOf prog _ = some _; kernel_rfl, by show tiOf prog _ = some _; kernel_rfl, by show tiOf prog _ = some _; kernel_rfl, by show tiOf prog _ = some _; kernel_rfl, by show tiOf prog _ = some _; kernel_rfl, by show tiOf prog _ = some _; kernel_rfl, by show tiOf prog _ = some _; kernel_rfl, by show tiOf prog _ = some _; kernel_rfl, by show tiOf prog _ = some _; kernel_rfl, by show tiOf prog _ = some _; kernel_rfl, by show tiOf prog _ = some _; kernel_rfl, by show tiOf prog _ = some _; kernel_rfl, by show tiOf prog _ = some _; kernel_rfl, by show tiOf prog _ = some _; kernel_rfl, by show tiOf prog _ = some _; kernel_rfl, by show tiOf prog _ = some _; kernel_rfl, by show tiOf prog _ = some _; kernel_rfl, by show tiOf prog _ = some _; kernel_rfl, by show tiOf prog _ = some _; kernel_rfl, by show tiOf prog _ = some _; kernel_rfl, by show tiOf prog _ = some _; kernel_rfl, by show tiOf prog _ = some _; kernel_rfl, by show tiOf prog _ = some _; kernel_rfl, by show tiOf prog _ = some _; kernel_rfl, by show tiOf prog _ = some _; kernel_rfl, by show tiOf prog _ = some _; kernel_rfl, by show tiOf prog _ = some _; kernel_rfl, by show tiOf prog _ = some _; kernel_rfl, by show tiOf prog _ = some _; kernel_rfl, by show tiOf prog _ = some _; kernel_rfl, by show tiOf prog _ = some _; kernel_rfl, by show tiOf prog _ = some _; kernel_rfl, by show tiOf prog _ = some _; kernel_rfl, by show tiOf prog _ = some _; kernel_rfl, by show tiOf prog _ = some _; kernel_rfl, by show tiOf prog _ = some _; kernel_rfl, by show tiOf prog _ = some _; kernel_rfl, by show tiOf prog _ = some _; kernel_rfl, by show tiOf prog _ = some _; kernel_rfl, by show tiOf prog _ = some _; kernel_rfl, by show tiOf prog _ = some _; kernel_rfl, by show tiOf prog _ = some _; kernel_rfl, by show tiOf prog _ = some _; kernel_rfl, by show tiOf prog _ = some _; kernel_rfl, by show tiOf prog _ = some _; kernel_rfl, by show tiOf prog _ = some _; kernel_rfl, by show tiOf prog _ = some _; kernel_rfl, by show tiOf prog _ = some _; kernel_rfl, by show tiOf prog _ = some _; kernel_rfl, by show tiOf prog _ = some _; kernel_rfl, by show tiOf prog _ = some _; kernel_rfl, by show tiOf prog _ = some _; kernel_rfl, by show tiOf prog _ = some _; kernel_rfl, by show tiOf prog _ = some _; kernel_rfl, by show tiOf prog _ = some _; kernel_rfl, by show tiOf prog _ = some _; kernel_rfl, by show tiOf prog _ = some _; kernel_rfl, by show tiOf prog _ = some _; kernel_rfl, by show tiOf prog _ = some _; kernel_rfl, by show tiOf prog _ = some _; kernel_rfl, by show tiOf prog _ = some _; kernel_rfl, by show tiOf prog _ = some _; kernel_rfl, by show tiOf prog _ = some _; kernel_rfl, by show tiOf prog _ = some _; kernel_rfl, by show tiOf prog _ = some _; kernel_rfl, by show tiOf prog _ = some _; kernel_rfl, by show tiOf prog _ = some _; kernel_rfl, by show tiOf prog _ = some _; kernel_rfl, by show tiOf prog _ = some _; kernel_rfl, by show tiOf prog _ = some _; kernel_rfl, by show tiOf prog _ = some _; kernel_rfl, by show tiOf prog _ = some _; kernel_rfl, by show tiOf prog _ = some _; kernel_rfl, by show tiOf prog _ = some _; kernel_rfl, by show tiOf prog _ = some _; kernel_rfl, by show tiOf prog _ = some _; kernel_rfl, by show tiOf prog _ = some _; kernel_rfl, by show tiOf prog _ = some _; kernel_rfl, by show tiOf prog _ = some _; kernel_rfl, by show tiOf prog _ = some _; kernel_rfl, by show tiOf prog _ = some _; kernel_rfl, by show tiOf prog _ = some _; kernel_rfl, by show tiOf prog _ = some _; kernel_rfl, by show tiOf prog _ = some _; kernel_rfl, by show tiOf prog _ = some _; kernel_rfl, by show tiOf prog _ = some _; kernel_rfl, by show tiOf prog _ = some _; kernel_rfl, by show tiOf prog _ = some _; kernel_rfl, trivial⟩
theorem lk_mem {α : Type} {t : Nat} {v : α} : ∀ {l : List (Nat × α)}, lk t l = some v → (t, v) ∈ l
 | (u, w) :: l, h => by
  unfold lk at h
  split at h
  ·rename_i e; cases h; subst e; simp
  ·exact List.mem_cons_of_mem _ (lk_mem h)
def EQ : List (TypeId × List Sc) := [(53, [.int .i64, .int .i64]), (68, [.bool, .str, .str]), (87, [.int .i64, .int .i64]), (107, [.int .i64, .str, .int .i64]), (278, [.int .i32, .int .u32]), (302, [.int .u8, .int .u8])]
theorem EQ_ok : AllP (fun x => EqOk prog x.1 x.2) EQ := ⟨eqOk_flat (by kernel_rfl) (by kernel_rfl) (by kernel_rfl) (by kernel_rfl), eqOk_flat (by kernel_rfl) (by kernel_rfl) (by kernel_rfl) (by kernel_rfl), eqOk_flat (by kernel_rfl) (by kernel_rfl) (by kernel_rfl) (by kernel_rfl), eqOk_flat (by kernel_rfl) (by kernel_rfl) (by kernel_rfl) (by kernel_rfl), eqOk_flat (by kernel_rfl) (by kernel_rfl) (by kernel_rfl) (by kernel_rfl), eqOk_flat (by kernel_rfl) (by kernel_rfl) (by kernel_rfl) (by kernel_rfl), trivial⟩
theorem mix : prog.follows .mixedOrders = true := by kernel_rfl
noncomputable def X : List (List (Nat × XI)) := [
 [  (3, { fn := f3, var := [0, 1, 2, 3, 4, 5, 6, 7, 8, 9, 10, 11, 12, 13], res := [4], keys := [0, 1, 4, 5, 6, 7, 9, 10, 11, 12, 13, 19, 37, 55], bk := [.loc 7, .loc 10, .loc 13], dat := [0, 1, 2, 3, 4, 5, 6, 7, 8, 9, 10, 11, 12, 13] }),
 (4, { fn := f4, var := [0, 1, 2, 3, 4, 5, 6, 7, 8, 9, 10], res := [2], keys := [0, 2, 3, 4, 7, 8, 9, 10, 21, 35], bk := [.loc 4, .loc 8], dat := [0, 1, 2, 3, 4, 5, 6, 7, 8, 9, 10] }),
 (5, { fn := f5, var := [0, 1, 2, 3, 4], res := [4], keys := [0, 1, 4, 9], bk := [], dat := [0, 1, 2, 3, 4] }),
 (6, { fn := f6, var := [0, 1, 2, 3, 5, 6, 7, 8, 9], res := [5, 6], keys := [0, 1, 4, 5, 6, 7, 8, 9, 12, 22], bk := [.loc 4], dat := [0, 1, 2, 3, 5, 6, 7, 8, 9], outd := true }),
 (7, { fn := f7, var := [0, 1, 2, 3, 5, 6, 7, 8, 9, 10, 11, 12, 13, 14, 15, 16], res := [5], keys := [0, 1, 4, 5, 7, 8, 9, 10, 11, 12, 14, 16, 19, 21, 22, 23, 24, 30, 37, 38, 39, 40, 47, 48, 49, 50, 57, 58, 59, 60, 84], bk := [.loc 4, .loc 7, .loc 9, .loc 11, .loc 16], dat := [0, 1, 2, 3, 5, 6, 7, 8, 9, 10, 11, 12, 13, 14, 15, 16], outd := true })],
 [  (8, { fn := f8, var := [0, 1, 2], res := [2], keys := [0, 2, 3], bk := [], dat := [0, 1, 2] }),
 (9, { fn := f9, var := [0, 1, 2, 3, 4], res := [2], keys := [0, 1, 2, 4], bk := [.loc 1, .esc 7 0, .esc 7 1], dat := [0, 1, 2, 3, 4] }),
 (10, { fn := f10, var := [0, 1, 2, 3, 4, 5, 6, 7], res := [0], keys := [0, 1, 3, 4, 5, 6, 7, 36], bk := [.loc 1, .loc 4], dat := [0, 1, 2, 3, 4, 5, 6, 7] }),
 (11, { fn := f11, var := [0, 1, 2], res := [2], keys := [0, 2], bk := [], dat := [0, 1, 2] }),
 (12, { fn := f12, var := [0, 1, 2, 3, 4, 5, 6, 11, 18], res := [4, 5, 6], keys := [0, 1, 4, 5, 6, 9, 10, 11, 18], bk := [], dat := [0, 1, 2, 3, 4, 5, 6, 11, 18], outd := true }),
 (13, { fn := f13, var := [0, 1, 2, 3, 4, 5], res := [2], keys := [0, 1, 2, 3, 5, 9, 28], bk := [.loc 1, .loc 3], dat := [0, 1, 2, 3, 4, 5] }),
 (14, { fn := f14, var := [0, 1, 3, 4, 5, 6, 7], res := [], keys := [0, 1, 2, 3, 5, 7, 12, 13, 14, 15, 27, 28, 29, 30], bk := [.loc 1, .loc 2, .loc 3, .loc 5, .loc 7], dat := [0, 1, 3, 4, 5, 6, 7] }),
 (15, { fn := f15, var := [0, 1, 2, 3, 4, 5], res := [2], keys := [0, 1, 2, 3, 5, 8, 9, 10, 11], bk := [.loc 1], dat := [0, 1, 4, 5] })],
 [  (16, { fn := f16, var := [0, 1, 2, 3, 4, 5], res := [2], keys := [0, 1, 2, 3, 4, 5, 7, 8, 9, 10, 15], bk := [.loc 1, .loc 5], dat := [0, 1, 2, 3, 4, 5] }),
 (17, { fn := f17, var := [0, 1, 2, 3, 4, 5, 6, 7, 8, 9, 10, 11, 12, 13, 14, 15, 16, 17], res := [4], keys := [0, 1, 4, 5, 7, 8, 9, 10, 12, 13, 15, 16, 17, 21, 22, 23, 24, 41, 42, 43, 44, 62, 70, 80], bk := [.loc 17], dat := [0, 1, 2, 3, 4, 5, 6, 7, 8, 9, 10, 11, 12, 13, 14, 15, 16, 17] }),
 (18, { fn := f18, var := [0, 1, 2, 3, 4, 5, 6, 7, 8, 9, 10, 11, 12, 13, 14, 15], res := [2, 3], keys := [0, 1, 2, 3, 5, 6, 7, 8, 9, 10, 11, 12, 13, 14, 15, 25, 27, 28, 29, 30, 36, 46, 53, 54, 55, 56, 62, 64, 82, 83, 84, 85, 94], bk := [.loc 1, .loc 5, .loc 9, .loc 14, .loc 51], dat := [0, 1, 2, 3, 4, 5, 6, 7, 8, 9, 10, 11, 13, 14, 15] }),
 (19, { fn := f19, var := [0, 1, 2], res := [0], keys := [0, 1, 2], bk := [.loc 1, .loc 2], dat := [0, 1, 2] }),
 (20, { fn := f20, var := [0, 1, 2, 3, 4, 5, 6, 7, 8], res := [4, 5], keys := [0, 1, 2, 4, 5, 6, 7, 8, 16], bk := [.loc 2, .esc 12 0, .esc 12 1], dat := [0, 1, 2, 3, 4, 5, 6, 7, 8] }),
 (21, { fn := f21, var := [0, 1, 2, 3, 4, 5, 6, 7], res := [4], keys := [0, 1, 2, 4, 5, 6, 7, 15], bk := [.loc 2, .esc 11 0, .esc 11 1], dat := [0, 1, 2, 3, 4, 5, 6, 7] }),
 (22, { fn := f22, var := [0, 1, 2, 3, 4, 5, 6, 7], res := [4], keys := [0, 1, 2, 4, 6, 7, 15], bk := [.loc 2, .esc 11 0, .esc 11 1], dat := [0, 1, 2, 3, 4, 5, 6, 7] }),
 (23, { fn := f23, var := [0, 1, 2, 3, 4, 5, 6, 7, 8, 9, 10, 11, 12, 13, 14, 15, 16, 17], res := [2, 3, 4], keys := [0, 2, 3, 4, 5, 6, 7, 8, 9, 10, 11, 12, 13, 16, 17, 24, 28, 34, 40, 63, 70, 81, 94, 100], bk := [.loc 9, .loc 20], dat := [0, 1, 2, 3, 4, 5, 6, 7, 8, 9, 10, 11, 12, 13, 14, 15, 16, 17], outd := true })],
 [  (24, { fn := f24, var := [0, 2, 3, 4, 5, 6, 7, 8, 9, 10, 11, 12, 13], res := [2, 3, 4], keys := [0, 2, 3, 4, 5, 6, 7, 8, 9, 12, 13, 20, 37, 55, 76, 93, 104, 122], bk := [.loc 16], dat := [0, 2, 3, 4, 5, 6, 7, 8, 9, 10, 11, 12, 13], outd := true }),
 (25, { fn := f25, var := [0, 2, 3, 4, 5, 6, 7, 8, 9, 10, 11, 12, 13, 14, 15, 16, 17, 18, 19], res := [2, 3, 4], keys := [0, 2, 3, 4, 5, 6, 7, 8, 9, 10, 11, 12, 13, 14, 15, 18, 19, 30, 60, 70, 80, 94, 120, 124, 126, 128, 132], bk := [.loc 22], dat := [0, 2, 3, 4, 5, 6, 7, 8, 9, 10, 11, 12, 13, 14, 15, 16, 17, 18, 19], outd := true }),
 (26, { fn := f26, var := [0, 1, 2], res := [2], keys := [0, 2], bk := [], dat := [0, 1, 2] }),
 (27, { fn := f27, var := [0, 1, 2, 3, 4, 5, 6, 7], res := [5, 6], keys := [0, 1, 4, 5, 6, 7, 10, 20], bk := [.loc 4], dat := [0, 1, 2, 3, 4, 5, 6, 7], outd := true }),
 (28, { fn := f28, var := [0, 1, 2, 3, 4, 5], res := [2], keys := [0, 1, 2, 3, 5, 7, 8, 9, 10], bk := [.loc 1, .loc 3, .loc 5], dat := [0, 1, 2, 3, 4, 5] }),
 (29, { fn := f29, var := [0, 1, 2, 3, 4, 5], res := [4], keys := [0, 1, 4, 5, 10, 12, 13, 14, 24], bk := [], dat := [0, 1, 2, 3, 4, 5] }),
 (30, { fn := f30, var := [0, 1], res := [], keys := [0, 1, 2], bk := [.loc 1, .loc 2], dat := [0, 1] }),
 (31, { fn := f31, var := [0, 1], res := [], keys := [0, 1, 2], bk := [.loc 1, .loc 2], dat := [0, 1] })],
 [  (32, { fn := f32, var := [0, 1, 2, 3, 4, 5], res := [4, 5], keys := [0, 1, 2, 4, 5, 9, 27], bk := [.loc 2], dat := [0, 1, 2, 3, 4, 5], outd := true }),
 (33, { fn := f33, var := [0, 1, 2, 3, 4, 5, 6, 7, 8, 9, 10, 11, 12, 13, 14, 15], res := [4], keys := [0, 1, 4, 5, 6, 7, 9, 10, 11, 12, 13, 14, 15, 18, 29, 30, 31, 32, 47, 69, 79, 80, 81, 82, 86], bk := [.loc 9], dat := [0, 1, 2, 3, 4, 5, 6, 7, 8, 9, 10, 11, 12, 13, 14, 15] }),
 (34, { fn := f34, var := [0, 1, 2, 3, 4, 5, 14, 20], res := [2], keys := [0, 2, 3, 5, 6, 7, 8, 9, 13, 14, 20], bk := [.loc 5], dat := [0, 1, 2, 3, 4, 5, 14, 20] }),
 (35, { fn := f35, var := [0, 1, 2, 3, 4, 5, 6, 7, 27, 41, 55], res := [4], keys := [0, 1, 4, 5, 6, 7, 16, 20, 27, 41, 55, 76], bk := [.loc 7], dat := [0, 1, 2, 3, 4, 5, 6, 7, 27, 41, 55] }),
 (36, { fn := f36, var := [0, 1, 2, 3, 4, 5], res := [2], keys := [0, 2, 3, 5, 6, 7, 8, 9], bk := [.loc 5], dat := [0, 1, 2, 3, 4, 5] }),
 (37, { fn := f37, var := [0, 1, 2, 3, 4, 5, 6], res := [2], keys := [0, 2, 3, 5, 6, 7, 8, 9, 10, 15, 23], bk := [.loc 5], dat := [0, 1, 2, 3, 4, 5, 6] }),
 (38, { fn := f38, var := [0, 1, 2, 3, 4, 5, 6, 7, 8, 9, 10, 11, 12, 13, 14], res := [6, 7], keys := [0, 1, 2, 6, 7, 8, 9, 11, 12, 13, 14, 27, 28, 29, 30, 31, 46, 49], bk := [.loc 11], dat := [0, 1, 2, 3, 4, 5, 6, 7, 8, 9, 10, 11, 12, 13, 14], outd := true }),
 (39, { fn := f39, var := [0, 1, 2, 3], res := [2, 3], keys := [0, 2, 3, 15, 28, 33], bk := [], dat := [0, 1, 2, 3] })],
 [  (40, { fn := f40, var := [0, 1, 2, 3, 4, 5, 6, 7, 8, 9, 10, 11], res := [6], keys := [0, 1, 2, 6, 7, 8, 9, 11, 34, 71, 79, 95], bk := [.loc 7, .loc 10], dat := [0, 1, 3, 4, 5, 6, 7, 8, 9, 10, 11] }),
 (41, { fn := f41, var := [0, 1, 2, 3, 4, 5, 6, 7, 8, 9], res := [4, 5, 6], keys := [0, 1, 2, 4, 5, 6, 7, 8, 9, 16], bk := [.loc 2, .esc 12 0, .esc 12 1], dat := [0, 1, 2, 3, 4, 5, 6, 7, 8, 9] }),
 (42, { fn := f42, var := [0, 1, 2, 3, 4, 5, 6], res := [4, 5], keys := [0, 1, 4, 5, 6, 31, 58], bk := [], dat := [0, 1, 2, 3, 4, 5, 6] }),
 (43, { fn := f43, var := [0, 1, 2, 3, 4, 5, 6], res := [4], keys := [0, 1, 4, 5, 18], bk := [], dat := [0, 1, 2, 3, 4, 5, 6] }),
 (44, { fn := f44, var := [0, 1, 2, 3, 4], res := [4], keys := [0, 1, 4], bk := [], dat := [0, 1, 2, 3, 4] }),
 (45, { fn := f45, var := [0, 1, 2, 3, 4, 5, 6, 7], res := [6], keys := [0, 1, 2, 6, 7, 15, 26], bk := [], dat := [0, 1, 2, 3, 4, 5, 6, 7] }),
 (46, { fn := f46, var := [0, 1, 3, 4, 5, 6, 15, 20], res := [3], keys := [0, 2, 3, 4, 5, 6, 10, 15, 20, 52], bk := [.loc 2], dat := [0, 1, 3, 4, 5, 6, 15, 20] }),
 (47, { fn := f47, var := [0, 1, 2, 3], res := [2], keys := [0, 2, 3, 7, 13], bk := [], dat := [0, 1, 2, 3] })],
 [  (48, { fn := f48, var := [0, 1, 2], res := [2], keys := [0, 2], bk := [], dat := [0, 1, 2] }),
 (49, { fn := f49, var := [0, 1, 2, 3, 4, 5, 6, 7, 8, 9, 10, 11, 12, 13, 14, 15, 16, 17, 41, 48], res := [4, 5, 6, 7], keys := [0, 1, 4, 5, 6, 7, 8, 9, 10, 11, 12, 13, 14, 15, 16, 17, 21, 31, 35, 40, 41, 48, 65, 87, 91, 107], bk := [.loc 14], dat := [0, 1, 2, 3, 4, 5, 6, 7, 8, 9, 10, 11, 12, 13, 14, 15, 16, 17, 41, 48], outd := true }),
 (50, { fn := f50, var := [0, 1, 2, 3, 4, 5, 6, 7], res := [], keys := [0, 1, 2, 3], bk := [], dat := [0, 1, 2, 3, 4, 5, 6, 7] }),
 (51, { fn := f51, var := [0, 1, 2], res := [2], keys := [0, 2, 8], bk := [], dat := [0, 1, 2] }),
 (52, { fn := f52, var := [0, 1, 2], res := [2], keys := [0, 2], bk := [], dat := [0, 1, 2] }),
 (53, { fn := f53, var := [0, 1, 2, 3, 4, 5, 6], res := [6], keys := [0, 1, 2, 6, 16, 23], bk := [], dat := [0, 1, 2, 3, 4, 5, 6] }),
 (54, { fn := f54, var := [0, 1, 2], res := [2], keys := [0, 2], bk := [], dat := [0, 1, 2] }),
 (55, { fn := f55, var := [0, 1, 2, 3, 4, 5], res := [4], keys := [0, 1, 4, 5, 7, 8, 9, 24], bk := [], dat := [0, 1, 2, 3, 4, 5] })],
 [  (56, { fn := f56, var := [0, 1, 2, 3, 4, 5, 6, 7, 8], res := [4, 5, 6], keys := [0, 1, 4, 5, 6, 7, 8, 20, 46, 50, 58, 82], bk := [], dat := [0, 1, 2, 3, 4, 5, 6, 7, 8] }),
 (57, { fn := f57, var := [0, 1, 2, 3, 4, 5, 6, 8, 15], res := [4, 5, 6], keys := [0, 1, 4, 5, 6, 7, 8, 15], bk := [], dat := [0, 1, 2, 3, 4, 5, 6, 8, 15], outd := true }),
 (58, { fn := f58, var := [0, 1, 2, 3, 4, 5], res := [4, 5], keys := [0, 1, 4, 5], bk := [], dat := [0, 1, 2, 3, 4, 5] }),
 (59, { fn := f59, var := [0, 1, 2], res := [2], keys := [0, 2], bk := [], dat := [0, 1, 2] }),
 (60, { fn := f60, var := [0, 1, 2], res := [2], keys := [0, 2, 4], bk := [], dat := [0, 1, 2] }),
 (61, { fn := f61, var := [0, 1, 2], res := [2], keys := [0, 2, 4], bk := [], dat := [0, 1, 2] }),
 (62, { fn := f62, var := [0, 1, 2, 3, 4, 5, 6, 7, 15, 23], res := [4, 5], keys := [0, 1, 4, 5, 6, 7, 8, 15, 23], bk := [], dat := [0, 1, 2, 3, 4, 5, 6, 7, 15, 23], outd := true }),
 (63, { fn := f63, var := [0, 1, 2, 3, 4], res := [2], keys := [0, 2, 3, 4, 9, 10, 11], bk := [], dat := [0, 1, 2, 3, 4] })],
 [  (64, { fn := f64, var := [0, 1, 2, 3, 4, 5, 6, 7, 8, 9, 10], res := [4], keys := [0, 1, 4, 5, 6, 8, 9, 10, 16, 17, 18, 24, 25, 26, 27, 35, 36, 37, 78], bk := [.loc 8], dat := [0, 1, 2, 3, 4, 5, 6, 7, 8, 9, 10] }),
 (65, { fn := f65, var := [0, 1, 2, 3], res := [2], keys := [0, 2, 3], bk := [], dat := [0, 1, 2, 3] }),
 (66, { fn := f66, var := [0, 1, 2, 3, 4, 5], res := [2], keys := [0, 2, 3, 4, 5, 9, 15, 36, 48], bk := [], dat := [0, 1, 2, 3, 4, 5] }),
 (67, { fn := f67, var := [0, 1, 2], res := [2], keys := [0, 1, 2, 5], bk := [.loc 1], dat := [0, 1, 2] }),
 (68, { fn := f68, var := [0, 1, 2, 3, 18, 25, 32], res := [2], keys := [0, 2, 3, 18, 25, 32], bk := [], dat := [0, 1, 2, 3, 18, 25, 32] }),
 (69, { fn := f69, var := [0, 1, 2, 3, 4, 5, 16], res := [4], keys := [0, 1, 2, 3, 4, 5, 16], bk := [.loc 2, .loc 3], dat := [0, 1, 2, 3, 4, 5, 16] }),
 (70, { fn := f70, var := [0, 1, 2, 3, 4, 5, 6, 7, 8, 9], res := [6], keys := [0, 1, 2, 4, 6, 7, 9, 12, 22, 28], bk := [.loc 4, .loc 8], dat := [0, 1, 2, 3, 4, 5, 6, 7, 8, 9] }),
 (71, { fn := f71, var := [0, 1, 2, 3, 4, 5, 6, 7], res := [4], keys := [0, 1, 4, 5, 6], bk := [.loc 5], dat := [0, 1, 2, 3, 4, 5, 6, 7] })],
 [  (72, { fn := f72, var := [0, 1, 2, 3, 4], res := [4], keys := [0, 1, 3, 4], bk := [.loc 3], dat := [0, 1, 2, 3, 4] }),
 (73, { fn := f73, var := [0, 1, 2, 3, 4, 5, 6, 7, 8, 25, 31, 42, 53, 64], res := [2, 3], keys := [0, 2, 3, 4, 5, 7, 8, 12, 14, 15, 16, 17, 24, 25, 31, 42, 53, 64], bk := [.loc 7], dat := [0, 1, 2, 3, 4, 5, 6, 7, 8, 25, 31, 42, 53, 64] }),
 (74, { fn := f74, var := [0, 1, 2, 3], res := [2], keys := [0, 2, 3], bk := [], dat := [0, 1, 2, 3] }),
 (75, { fn := f75, var := [0, 1, 2, 3, 4], res := [2], keys := [0, 2, 3, 4, 12, 16, 43], bk := [], dat := [0, 1, 2, 3, 4] }),
 (76, { fn := f76, var := [0, 1, 2, 3, 4, 5], res := [2], keys := [0, 2, 3, 4, 5, 8, 12, 39], bk := [], dat := [0, 1, 2, 3, 4, 5] }),
 (77, { fn := f77, var := [0, 1, 2, 3, 5, 7, 13], res := [5], keys := [0, 1, 4, 5, 6, 7, 13], bk := [.loc 4], dat := [0, 1, 2, 3, 5, 7, 13] }),
 (78, { fn := f78, var := [0, 1, 2, 3, 4], res := [4], keys := [0, 1, 4], bk := [], dat := [0, 1, 2, 3, 4] }),
 (79, { fn := f79, var := [0, 1, 2, 3], res := [2], keys := [0, 2, 3, 15], bk := [], dat := [0, 1, 2, 3] })],
 [  (80, { fn := f80, var := [0, 1, 2, 3, 4, 5, 6, 7, 8, 9, 10, 11, 12, 13, 14], res := [2, 3, 4], keys := [0, 2, 3, 4, 5, 6, 7, 8, 9, 10, 11, 13, 14, 17, 23, 33, 39, 51, 64, 70], bk := [.esc 19 0, .esc 19 1], dat := [0, 1, 2, 3, 4, 5, 6, 7, 8, 9, 10, 11, 12, 13, 14], outd := true }),
 (81, { fn := f81, var := [0, 1, 2, 3, 4, 5, 6, 7, 8, 9, 10, 11, 12, 13, 14, 15], res := [2, 3, 4], keys := [0, 2, 3, 4, 5, 6, 7, 8, 9, 10, 11, 12, 14, 15, 18, 25, 32, 59, 69, 90], bk := [.esc 20 0, .esc 20 1], dat := [0, 1, 2, 3, 4, 5, 7, 8, 9, 10, 11, 12, 13, 14, 15], outd := true }),
 (82, { fn := f82, var := [0, 1, 2, 3, 4, 5], res := [2, 3, 4], keys := [0, 2, 3, 4, 5, 8, 24, 32], bk := [.loc 13, .esc 11 0, .esc 11 1], dat := [0, 1, 2, 3, 4, 5], outd := true }),
 (83, { fn := f83, var := [0, 1], res := [], keys := [0, 6, 19], bk := [], dat := [0, 1] }),
 (84, { fn := f84, var := [0, 1, 2, 3, 4, 5], res := [2, 3, 4], keys := [0, 2, 3, 4, 5, 13], bk := [.esc 8 0, .esc 8 1], dat := [0, 1, 2, 3, 4, 5], outd := true }),
 (85, { fn := f85, var := [0, 1, 2, 3, 4, 5], res := [2, 3, 4], keys := [0, 2, 3, 4, 5, 13], bk := [.esc 8 0, .esc 8 1], dat := [0, 1, 2, 3, 4, 5], outd := true }),
 (86, { fn := f86, var := [0, 1, 2, 3, 4, 5], res := [2, 3, 4], keys := [0, 2, 3, 4, 5, 13], bk := [.esc 8 0, .esc 8 1], dat := [0, 1, 2, 3, 4, 5], outd := true }),
 (87, { fn := f87, var := [0, 1, 2, 3, 4], res := [4], keys := [0, 1, 2, 4], bk := [.loc 2], dat := [0, 1, 2, 3, 4] })],
 [  (88, { fn := f88, var := [0, 1, 2], res := [2], keys := [0, 2, 4], bk := [], dat := [0, 1, 2] }),
 (89, { fn := f89, var := [0, 1, 2, 3], res := [], keys := [0, 2, 3, 9], bk := [], dat := [0, 1, 2, 3] }),
 (90, { fn := f90, var := [0, 1, 2, 3, 4, 13, 26, 33, 42], res := [2], keys := [0, 1, 2, 3, 4, 12, 13, 26, 33, 42], bk := [.loc 1], dat := [0, 1, 2, 3, 4, 13, 26, 33, 42] }),
 (91, { fn := f91, var := [0, 1, 2, 3, 4], res := [2], keys := [0, 2, 3, 4, 12, 13, 14, 15, 16, 23, 33], bk := [.loc 4], dat := [0, 1, 2, 3, 4] }),
 (92, { fn := f92, var := [0, 1, 2, 3, 4, 5, 6, 7, 8, 9, 10, 11, 12, 13, 14, 15, 16, 17], res := [4], keys := [0, 1, 4, 5, 6, 7, 8, 9, 10, 11, 13, 15, 17, 47, 50, 51, 52, 53, 64, 65, 66, 67, 78, 80, 84], bk := [.loc 13, .loc 15], dat := [0, 1, 2, 3, 4, 5, 6, 7, 8, 9, 10, 12, 13, 14, 15, 16, 17] }),
 (93, { fn := f93, var := [0, 1, 2, 3, 9, 11, 12, 13, 14, 15, 16, 17, 18, 20, 21, 22], res := [9], keys := [0, 1, 2, 3, 4, 8, 9, 10, 11, 12, 13, 14, 15, 16, 17, 18, 19, 20, 21, 22, 23, 28, 38, 52, 68, 71, 72, 73, 74, 89, 123, 133, 150], bk := [.loc 4, .loc 8, .loc 10, .loc 19, .loc 23], dat := [0, 1, 2, 3, 9, 11, 12, 13, 14, 15, 16, 17, 18, 20, 21, 22], outd := true }),
 (94, { fn := f94, var := [0, 1, 2, 3, 4], res := [4], keys := [0, 1, 4], bk := [], dat := [0, 1, 2, 3, 4] }),
 (95, { fn := f95, var := [0, 1, 2, 3, 4, 5], res := [4], keys := [0, 1, 4, 5, 7, 8, 9, 16], bk := [], dat := [0, 1, 2, 3, 4, 5] })],
 [  (96, { fn := f96, var := [0, 2, 3], res := [3], keys := [0, 1, 2, 3], bk := [.loc 2], dat := [0, 2, 3] }),
 (97, { fn := f97, var := [0, 1, 2], res := [2], keys := [0, 2], bk := [], dat := [0, 1, 2] }),
 (98, { fn := f98, var := [0, 1, 2, 3, 4, 5, 6, 25, 32, 38, 44], res := [4], keys := [0, 1, 4, 5, 6, 10, 25, 32, 38, 44], bk := [], dat := [0, 1, 2, 3, 4, 5, 6, 25, 32, 38, 44] }),
 (99, { fn := f99, var := [0, 1, 2, 3, 4, 5, 6], res := [2], keys := [0, 2, 3, 4, 6, 8, 9, 10, 11, 22], bk := [.loc 6], dat := [0, 1, 2, 3, 5, 6] }),
 (100, { fn := f100, var := [0, 1, 2, 3, 4, 5, 6, 7, 8, 9, 10, 11, 12, 13], res := [6], keys := [0, 1, 2, 6, 7, 8, 9, 11, 12, 13, 22, 34, 35, 36, 37, 41, 50], bk := [.loc 11], dat := [0, 1, 2, 3, 4, 5, 6, 8, 9, 10, 11, 12, 13] }),
 (101, { fn := f101, var := [0, 1, 2, 3, 4], res := [2], keys := [0, 2, 3, 4, 8, 9, 10], bk := [], dat := [0, 1, 2, 3, 4] }),
 (102, { fn := f102, var := [0, 1, 3, 4, 5, 6, 7, 8, 11, 29, 50], res := [3], keys := [0, 2, 3, 4, 5, 7, 8, 10, 11, 25, 29, 31, 32, 33, 42, 50], bk := [.loc 2, .loc 4], dat := [0, 1, 3, 4, 5, 6, 7, 8, 11, 29, 50] }),
 (103, { fn := f103, var := [0, 1, 3, 4, 5, 6, 9, 12, 18], res := [3], keys := [0, 2, 3, 5, 6, 8, 9, 12, 18, 22, 24, 25, 26, 32, 39, 56], bk := [.loc 2], dat := [0, 1, 3, 4, 5, 6, 9, 12, 18] })],
 [  (104, { fn := f104, var := [0, 1, 3, 6, 12], res := [3], keys := [0, 2, 3, 5, 6, 9, 12, 15], bk := [.loc 2], dat := [0, 1, 3, 6, 12] }),
 (105, { fn := f105, var := [0, 1, 2, 3, 4, 5, 6], res := [2], keys := [0, 2, 3, 4, 5, 6, 8, 9, 10, 18, 25, 38], bk := [.loc 5], dat := [0, 1, 2, 3, 4, 5, 6] }),
 (106, { fn := f106, var := [0, 1, 2], res := [2], keys := [0, 2], bk := [.loc 5], dat := [0, 1, 2] }),
 (107, { fn := f107, var := [0, 1, 2, 3, 4, 5, 6], res := [2, 3, 4], keys := [0, 2, 3, 4, 5, 6, 9, 11, 33], bk := [.loc 6], dat := [0, 1, 2, 3, 4, 5, 6] }),
 (108, { fn := f108, var := [0, 1, 2, 3, 4], res := [4], keys := [0, 1, 4], bk := [], dat := [0, 1, 2, 3, 4] }),
 (109, { fn := f109, var := [0, 1, 2, 3, 4, 5, 6, 7], res := [], keys := [0, 1, 2, 3], bk := [], dat := [0, 1, 2, 3, 4, 5, 6, 7] }),
 (110, { fn := f110, var := [0, 1, 2], res := [2], keys := [0, 2], bk := [], dat := [0, 1, 2] }),
 (111, { fn := f111, var := [0, 1, 2, 3, 4, 5, 6, 7, 8, 9], res := [4, 5], keys := [0, 1, 4, 5, 6, 9], bk := [], dat := [0, 1, 2, 3, 4, 5, 6, 7, 8, 9] })],
 [  (112, { fn := f112, var := [0, 1, 2, 3, 4], res := [2], keys := [0, 2, 3, 4, 12, 42], bk := [], dat := [0, 1, 2, 3, 4] }),
 (113, { fn := f113, var := [0, 1, 2, 3, 4], res := [4], keys := [0, 1, 4, 14, 18], bk := [], dat := [0, 1, 2, 3, 4] }),
 (114, { fn := f114, var := [0, 1, 2, 3, 4, 5, 6, 7, 8, 9, 10, 11, 12, 71, 87, 100], res := [4, 5], keys := [0, 1, 4, 5, 6, 7, 8, 9, 10, 11, 12, 27, 33, 49, 68, 71, 87, 100], bk := [], dat := [0, 1, 2, 3, 4, 5, 6, 7, 8, 9, 10, 11, 12, 71, 87, 100] }),
 (115, { fn := f115, var := [0], res := [], keys := [], bk := [], dat := [0] }),
 (116, { fn := f116, var := [0, 1, 2, 3, 4, 5, 6, 7, 8], res := [2, 3, 4], keys := [0, 2, 3, 4, 5, 6, 7, 8, 14, 23, 34], bk := [.loc 10], dat := [0, 1, 2, 3, 4, 5, 6, 7, 8] }),
 (117, { fn := f117, var := [0, 1, 2], res := [2], keys := [0, 2], bk := [], dat := [0, 1, 2] }),
 (118, { fn := f118, var := [0, 1, 2, 3, 4, 5, 6, 7, 8], res := [2, 3, 4], keys := [0, 2, 3, 4, 5, 6, 7, 8, 14, 23], bk := [.loc 10], dat := [0, 1, 2, 3, 4, 5, 6, 7, 8] }),
 (119, { fn := f119, var := [0, 1, 2, 3, 4, 5, 6, 7, 8], res := [2, 3, 4], keys := [0, 2, 3, 4, 5, 6, 7, 8, 14, 23], bk := [.loc 10], dat := [0, 1, 2, 3, 4, 5, 6, 7, 8] })],
 [  (120, { fn := f120, var := [0, 1, 2, 3, 4], res := [2], keys := [0, 2, 3, 4, 22, 26, 50], bk := [], dat := [0, 1, 2, 3, 4] }),
 (121, { fn := f121, var := [0, 1, 2, 3, 4, 5, 12, 35, 45, 61], res := [4], keys := [0, 1, 4, 5, 11, 12, 35, 45, 61], bk := [.loc 5], dat := [0, 1, 2, 3, 4, 5, 12, 35, 45, 61] }),
 (122, { fn := f122, var := [0, 1, 2], res := [2], keys := [0, 1, 2], bk := [.loc 1], dat := [0, 1, 2] }),
 (123, { fn := f123, var := [0, 1, 2, 3, 4, 5, 6], res := [4], keys := [0, 1, 3, 4, 6, 7, 8, 9, 10, 22, 38], bk := [.loc 3, .loc 6], dat := [0, 1, 2, 3, 4, 5, 6] }),
 (124, { fn := f124, var := [0, 1, 2, 3, 4, 5, 6, 13, 22, 36, 56], res := [2, 3, 4], keys := [0, 2, 3, 4, 6, 7, 8, 9, 10, 13, 22, 36, 56], bk := [.loc 6], dat := [0, 1, 2, 3, 4, 5, 6, 13, 22, 36, 56], outd := true }),
 (125, { fn := f125, var := [0, 1, 2, 3, 4, 5], res := [4], keys := [0, 1, 4, 5, 10, 12, 13, 14, 24], bk := [], dat := [0, 1, 2, 3, 4, 5] }),
 (126, { fn := f126, var := [0, 1, 2, 3, 4, 5], res := [2], keys := [0, 2, 3, 5, 6, 7, 8, 9, 13], bk := [.loc 5], dat := [0, 1, 2, 3, 4, 5] }),
 (127, { fn := f127, var := [0, 1, 2, 3, 4, 5], res := [4], keys := [0, 1, 4, 5, 10, 12, 13, 14, 24], bk := [], dat := [0, 1, 2, 3, 4, 5] })],
 [  (128, { fn := f128, var := [0, 1, 2, 3, 4, 5], res := [2], keys := [0, 2, 3, 5, 6, 7, 8, 9, 14], bk := [.loc 5], dat := [0, 1, 2, 3, 4, 5] }),
 (129, { fn := f129, var := [0, 1, 2, 3, 4, 5, 6, 7], res := [4], keys := [0, 1, 4, 5, 7, 8, 9, 10, 11, 30], bk := [.loc 7], dat := [0, 1, 2, 3, 4, 5, 6, 7] }),
 (130, { fn := f130, var := [0, 1, 2, 3, 4, 5, 7, 13], res := [4, 5], keys := [0, 1, 4, 5, 6, 7, 13], bk := [], dat := [0, 1, 2, 3, 4, 5, 7, 13], outd := true }),
 (131, { fn := f131, var := [0, 1, 2, 3, 4, 5, 7, 13], res := [4, 5], keys := [0, 1, 4, 5, 6, 7, 13], bk := [], dat := [0, 1, 2, 3, 4, 5, 7, 13] }),
 (132, { fn := f132, var := [0, 1, 2, 3, 4], res := [4], keys := [0, 1, 4], bk := [], dat := [0, 1, 2, 3, 4] }),
 (133, { fn := f133, var := [0, 1, 2, 3, 4, 5, 6, 7, 8, 9, 10, 11, 12, 13, 14], res := [6], keys := [0, 1, 2, 6, 7, 8, 9, 10, 11, 13, 15, 16, 17, 18], bk := [.loc 10], dat := [0, 1, 2, 3, 4, 5, 6, 7, 8, 9, 10, 11, 12, 13, 14] }),
 (134, { fn := f134, var := [0, 1, 2], res := [2], keys := [0, 2], bk := [], dat := [0, 1, 2] }),
 (135, { fn := f135, var := [0, 1, 2], res := [2], keys := [0, 2], bk := [], dat := [0, 1, 2] })],
 [  (136, { fn := f136, var := [0, 1], res := [], keys := [0, 2], bk := [.loc 2], dat := [0, 1] }),
 (137, { fn := f137, var := [0, 1, 3, 4], res := [3], keys := [0, 2, 3, 4, 12, 18, 23], bk := [.loc 2], dat := [0, 1, 3, 4] }),
 (138, { fn := f138, var := [0, 1, 2, 3, 4], res := [4], keys := [0, 1, 4], bk := [], dat := [0, 1, 2, 3, 4] }),
 (139, { fn := f139, var := [0, 1, 3, 4, 5, 6, 7, 18, 31], res := [3, 4], keys := [0, 2, 3, 4, 5, 6, 7, 11, 18, 31], bk := [.loc 2, .loc 7], dat := [0, 1, 3, 4, 5, 6, 7, 18, 31] }),
 (140, { fn := f140, var := [0, 1, 2, 4], res := [2], keys := [0, 2, 3, 4], bk := [], dat := [0, 1, 2, 4] }),
 (141, { fn := f141, var := [0, 1, 2, 3, 4, 5], res := [2], keys := [0, 2, 3], bk := [], dat := [0, 1, 2, 3, 4, 5] }),
 (142, { fn := f142, var := [0, 1, 4, 5, 6, 7, 8, 9, 10, 11, 12, 13, 16, 24, 31, 36], res := [4], keys := [0, 1, 4, 5, 6, 7, 8, 9, 10, 11, 12, 13, 16, 24, 31, 36, 59, 64, 73, 93, 107, 114, 132, 139], bk := [], dat := [0, 1, 4, 5, 6, 7, 8, 9, 10, 11, 12, 13, 16, 24, 31, 36] }),
 (143, { fn := f143, var := [0, 1, 2, 3, 4, 5, 6], res := [4, 5, 6], keys := [0, 1, 4, 5, 6], bk := [], dat := [0, 1, 2, 3, 4, 5, 6] })],
 [  (144, { fn := f144, var := [0, 1, 2, 3, 4, 5, 6], res := [4], keys := [0, 1, 4, 5, 6, 12, 21, 31], bk := [.loc 5], dat := [0, 1, 2, 3, 4, 5, 6] }),
 (145, { fn := f145, var := [0, 1, 2, 3, 4, 5, 6], res := [4, 5, 6], keys := [0, 1, 4, 5, 6, 17, 23, 27, 41, 47, 60], bk := [], dat := [0, 1, 2, 3, 4, 5, 6] }),
 (146, { fn := f146, var := [0, 1, 2, 3, 4, 5, 6, 7], res := [], keys := [0, 1, 2, 3, 15], bk := [], dat := [0, 1, 2, 3, 4, 5, 6, 7] }),
 (147, { fn := f147, var := [0, 1, 2, 3, 4, 5, 6, 7, 8, 9, 10, 11, 12, 13, 14], res := [10, 11], keys := [0, 1, 2, 3, 4, 10, 11, 13, 14, 32, 39, 55], bk := [], dat := [0, 1, 2, 3, 4, 5, 6, 7, 8, 9, 10, 11, 12, 13, 14] }),
 (148, { fn := f148, var := [0, 1, 2, 3, 4, 5, 6, 7, 8, 9, 10, 11, 12, 13, 14, 15, 21, 42, 60], res := [6, 7], keys := [0, 1, 2, 6, 7, 8, 9, 10, 11, 12, 13, 14, 15, 20, 21, 36, 42, 51, 60, 72], bk := [.loc 9], dat := [0, 1, 2, 3, 4, 5, 6, 7, 8, 9, 10, 11, 12, 13, 14, 15, 21, 42, 60] }),
 (149, { fn := f149, var := [0, 1], res := [], keys := [0, 7], bk := [], dat := [0, 1] }),
 (150, { fn := f150, var := [0, 1, 2, 6, 7, 8, 9, 10, 11, 12, 13, 29, 34, 63, 91], res := [6, 7], keys := [0, 1, 2, 6, 7, 8, 9, 10, 11, 12, 13, 29, 34, 59, 63, 69, 78, 91, 105, 124], bk := [], dat := [0, 1, 2, 6, 7, 8, 9, 10, 11, 12, 13, 29, 34, 63, 91] }),
 (151, { fn := f151, var := [0, 1, 2, 3, 4, 5, 6, 7, 8, 9, 10, 11, 22, 36, 41], res := [6, 7], keys := [0, 1, 2, 6, 7, 8, 9, 10, 11, 22, 36, 41, 55, 69], bk := [], dat := [0, 1, 2, 3, 4, 5, 6, 7, 8, 9, 10, 11, 22, 36, 41] })],
 [  (152, { fn := f152, var := [0, 1, 2, 3, 4, 5, 6], res := [2], keys := [0, 2, 3, 4, 5, 6, 22, 26, 45], bk := [], dat := [0, 1, 2, 3, 4, 5, 6] }),
 (153, { fn := f153, var := [0, 1, 2, 3, 4, 5], res := [2], keys := [0, 2, 3], bk := [], dat := [0, 1, 2, 3, 4, 5] }),
 (154, { fn := f154, var := [0, 1, 2], res := [], keys := [0, 2], bk := [], dat := [0, 1, 2] }),
 (155, { fn := f155, var := [0, 1, 2, 3, 4, 5, 6], res := [2, 3], keys := [0, 2, 3, 4, 6, 14], bk := [.esc 9 0, .esc 9 1], dat := [0, 1, 2, 3, 4, 5, 6], outd := true }),
 (156, { fn := f156, var := [0, 1, 2, 3, 4, 5, 6], res := [2, 3], keys := [0, 2, 3, 4, 6, 14], bk := [.esc 9 0, .esc 9 1], dat := [0, 1, 2, 3, 4, 5, 6], outd := true }),
 (157, { fn := f157, var := [0, 1, 2, 3, 4, 5, 6], res := [2, 3], keys := [0, 2, 3, 4, 6, 14], bk := [.esc 9 0, .esc 9 1], dat := [0, 1, 2, 3, 4, 5, 6], outd := true }),
 (158, { fn := f158, var := [0, 1, 2, 3, 4, 5, 6, 7, 8, 24, 32, 46, 54, 62], res := [2, 3], keys := [0, 2, 3, 4, 5, 6, 8, 12, 16, 17, 18, 19, 23, 24, 32, 43, 45, 46, 54, 62], bk := [.loc 8, .esc 15 0, .esc 15 1], dat := [0, 1, 2, 3, 4, 5, 6, 7, 8, 24, 32, 46, 54, 62] }),
 (159, { fn := f159, var := [0, 1, 2, 3, 4, 5, 6, 7, 8, 24, 32], res := [2, 3], keys := [0, 2, 3, 4, 5, 6, 8, 12, 16, 17, 18, 19, 23, 24, 32], bk := [.loc 8, .esc 15 0, .esc 15 1], dat := [0, 1, 2, 3, 4, 5, 6, 7, 8, 24, 32] })],
 [  (160, { fn := f160, var := [0, 1, 2, 3, 4, 5, 6, 7, 8, 24, 32], res := [2, 3], keys := [0, 2, 3, 4, 5, 6, 8, 12, 16, 17, 18, 19, 23, 24, 32], bk := [.loc 8, .esc 15 0, .esc 15 1], dat := [0, 1, 2, 3, 4, 5, 6, 7, 8, 24, 32] }),
 (161, { fn := f161, var := [0, 1, 2, 3, 4, 5], res := [4], keys := [0, 1, 4, 5, 10, 12, 13, 14, 24], bk := [], dat := [0, 1, 2, 3, 4, 5] }),
 (162, { fn := f162, var := [0, 1, 2, 3, 4], res := [4], keys := [0, 1, 4], bk := [], dat := [0, 1, 2, 3, 4] }),
 (163, { fn := f163, var := [0, 1, 2, 3, 4, 5, 6, 7, 8, 9], res := [4], keys := [0, 1, 4, 5, 6, 7, 9, 11, 17, 23, 34], bk := [.loc 5], dat := [0, 1, 2, 3, 4, 5, 6, 7, 8, 9] }),
 (164, { fn := f164, var := [0, 1, 2, 3, 4], res := [4], keys := [0, 1, 4], bk := [], dat := [0, 1, 2, 3, 4] }),
 (165, { fn := f165, var := [0, 1, 2, 3, 4], res := [4], keys := [0, 1, 4], bk := [], dat := [0, 1, 2, 3, 4] }),
 (166, { fn := f166, var := [0, 1, 2, 3, 4], res := [4], keys := [0, 1, 4], bk := [], dat := [0, 1, 2, 3, 4] }),
 (167, { fn := f167, var := [0, 1, 2, 3, 4], res := [4], keys := [0, 1, 4], bk := [], dat := [0, 1, 2, 3, 4] })],
 [  (168, { fn := f168, var := [0, 1], res := [], keys := [], bk := [], dat := [0, 1] }),
 (169, { fn := f169, var := [0, 1, 2], res := [2], keys := [0, 2], bk := [], dat := [0, 1, 2] }),
 (170, { fn := f170, var := [0, 1, 2, 3, 4, 5, 6, 7, 8, 9, 10], res := [4], keys := [0, 1, 4, 5, 6, 7, 8, 9, 10, 20, 39, 44, 77], bk := [], dat := [0, 1, 2, 3, 4, 5, 6, 7, 8, 9, 10] }),
 (171, { fn := f171, var := [0, 1, 2, 3, 4, 5, 6, 7], res := [4, 5, 6], keys := [0, 1, 4, 5, 6, 7, 12], bk := [], dat := [0, 1, 2, 3, 4, 5, 6, 7] }),
 (172, { fn := f172, var := [0, 1, 2, 3, 4], res := [4], keys := [0, 1, 4, 13], bk := [], dat := [0, 1, 2, 3, 4] }),
 (173, { fn := f173, var := [0, 1, 2, 3, 4, 5], res := [3], keys := [0, 2, 3, 4, 5, 9, 16], bk := [.loc 2], dat := [0, 1, 2, 3, 4, 5] }),
 (174, { fn := f174, var := [0, 1, 2, 3, 4], res := [4], keys := [0, 1, 4, 7, 12], bk := [], dat := [0, 1, 2, 3, 4] }),
 (175, { fn := f175, var := [0, 1, 2, 3, 4, 5, 6], res := [4], keys := [0, 1, 4, 5, 6, 9, 18], bk := [], dat := [0, 1, 2, 3, 4, 5, 6] })],
 [  (176, { fn := f176, var := [0, 1, 2, 3, 4, 5, 6, 7], res := [6], keys := [0, 1, 2, 4, 6, 7, 10, 32, 67], bk := [.loc 4], dat := [0, 1, 2, 3, 4, 5, 6, 7] }),
 (177, { fn := f177, var := [0, 1, 2, 3, 4, 5, 8, 11, 14, 17], res := [2, 3, 4], keys := [0, 2, 3, 4, 5, 8, 11, 14, 17], bk := [], dat := [0, 1, 2, 3, 4, 5, 8, 11, 14, 17] }),
 (178, { fn := f178, var := [0, 1, 2], res := [2], keys := [0, 2, 4], bk := [], dat := [0, 1, 2] }),
 (179, { fn := f179, var := [0, 1, 2, 3, 4, 5, 6], res := [6], keys := [0, 1, 2, 6, 8], bk := [], dat := [0, 1, 2, 3, 4, 5, 6] }),
 (180, { fn := f180, var := [0, 1, 2, 3, 4, 5, 6], res := [6], keys := [0, 1, 2, 4, 6, 8], bk := [.loc 4], dat := [0, 1, 2, 3, 4, 5, 6] }),
 (181, { fn := f181, var := [0, 1, 2], res := [2], keys := [0, 2], bk := [], dat := [0, 1, 2] }),
 (182, { fn := f182, var := [0, 1, 2, 3, 5, 7, 9, 11, 13], res := [2, 3], keys := [0, 2, 3, 4, 5, 7, 9, 11, 13], bk := [], dat := [0, 1, 2, 3, 5, 7, 9, 11, 13] }),
 (183, { fn := f183, var := [0, 1, 2, 3, 8, 9, 10, 11, 12, 13, 14, 15, 16, 17, 18], res := [], keys := [0, 1, 2, 3, 8, 9, 10, 11, 12, 13, 14, 15, 16, 17, 18, 23, 29, 35, 50, 68, 72, 87, 113], bk := [], dat := [0, 1, 2, 3, 8, 9, 10, 11, 12, 13, 14, 15, 16, 17, 18] })],
 [  (184, { fn := f184, var := [0, 1, 2], res := [2], keys := [0, 2], bk := [], dat := [0, 1, 2] }),
 (185, { fn := f185, var := [0, 1, 2, 3, 4], res := [4], keys := [0, 1, 4], bk := [], dat := [0, 1, 2, 3, 4] }),
 (186, { fn := f186, var := [0, 1, 2], res := [2], keys := [0, 2, 6], bk := [.loc 11], dat := [0, 1, 2] }),
 (187, { fn := f187, var := [0, 1, 2, 3, 4], res := [4], keys := [0, 1, 4], bk := [], dat := [0, 1, 2, 3, 4] }),
 (188, { fn := f188, var := [0, 1, 2, 3, 4, 5, 6, 7, 8], res := [2], keys := [0, 2, 3, 5, 6, 8, 9, 10, 11, 12, 20, 25, 26, 27, 28], bk := [], dat := [0, 1, 2, 3, 4, 5, 6, 7, 8] }),
 (189, { fn := f189, var := [0, 1, 2], res := [2], keys := [0, 2, 4], bk := [], dat := [0, 1, 2] }),
 (190, { fn := f190, var := [0, 1, 2, 3], res := [2], keys := [0, 2, 3], bk := [], dat := [0, 1, 2, 3] }),
 (191, { fn := f191, var := [0, 1, 4, 5, 6, 7, 8, 9, 10, 11, 12, 13, 14, 15, 16], res := [], keys := [0, 1, 4, 5, 6, 7, 8, 9, 10, 11, 12, 13, 14, 15, 16, 20, 99, 139, 161], bk := [], dat := [0, 1, 4, 5, 6, 7, 8, 9, 10, 11, 12, 13, 14, 15, 16] })],
 [  (192, { fn := f192, var := [0, 1, 2, 3, 4, 5, 6, 7, 8, 9, 10, 11, 12, 13, 14, 15, 16, 17, 18], res := [10, 11], keys := [0, 1, 2, 3, 4, 10, 11, 12, 13, 14, 15, 16, 17, 18, 28, 30, 34, 46, 68, 89, 94], bk := [.loc 12], dat := [0, 1, 2, 3, 4, 5, 6, 7, 8, 9, 10, 11, 12, 13, 14, 15, 16, 17, 18], outd := true }),
 (193, { fn := f193, var := [0, 1, 2, 3, 4], res := [4], keys := [0, 1, 4], bk := [], dat := [0, 1, 2, 3, 4] }),
 (194, { fn := f194, var := [0, 1], res := [], keys := [], bk := [], dat := [0, 1] }),
 (195, { fn := f195, var := [0, 1, 2, 3, 4, 5, 6, 7, 8], res := [2, 3], keys := [0, 2, 3, 4, 5, 6, 7, 8, 12, 25, 30], bk := [], dat := [0, 1, 2, 3, 4, 5, 6, 7, 8] }),
 (196, { fn := f196, var := [0, 1, 2, 3, 4], res := [4], keys := [0, 1, 4], bk := [], dat := [0, 1, 2, 3, 4] }),
 (197, { fn := f197, var := [0, 1, 2, 3], res := [2, 3], keys := [0, 2, 3, 10], bk := [], dat := [0, 1, 2, 3] }),
 (198, { fn := f198, var := [0, 1, 2, 3, 4], res := [4], keys := [0, 1, 4], bk := [], dat := [0, 1, 2, 3, 4] }),
 (199, { fn := f199, var := [0, 1, 2, 3, 4, 5], res := [4], keys := [0, 1, 4, 5, 16, 28], bk := [], dat := [0, 1, 2, 3, 4, 5] })],
 [  (200, { fn := f200, var := [0, 1, 2, 3, 4, 5, 6, 7], res := [], keys := [0, 1, 2, 6, 7, 12, 30], bk := [], dat := [0, 1, 2, 3, 4, 5, 6, 7] }),
 (201, { fn := f201, var := [0, 1, 2, 3, 4, 5, 6, 7, 8, 9, 10], res := [], keys := [0, 1, 2, 6, 7, 8, 9, 10, 19, 30], bk := [], dat := [0, 1, 2, 3, 4, 5, 6, 7, 8, 9, 10] }),
 (202, { fn := f202, var := [0, 1, 2, 3, 4, 5, 6, 7, 8, 9, 10], res := [], keys := [0, 1, 2, 6, 7, 8, 9, 10, 15, 33, 43], bk := [.loc 7], dat := [0, 1, 2, 3, 4, 5, 6, 7, 8, 9, 10] }),
 (203, { fn := f203, var := [0, 1, 2, 3, 4, 5, 6, 7, 8, 9, 10, 11, 12, 51, 54], res := [6, 7], keys := [0, 1, 2, 6, 7, 8, 9, 10, 11, 12, 32, 34, 49, 51, 54], bk := [.loc 9], dat := [0, 1, 2, 3, 4, 5, 6, 7, 8, 9, 10, 11, 12, 51, 54] }),
 (204, { fn := f204, var := [0, 1, 2, 3, 4, 5, 6, 7], res := [], keys := [0, 1, 2, 6, 7, 13], bk := [], dat := [0, 1, 2, 3, 4, 5, 6, 7] }),
 (205, { fn := f205, var := [0, 1, 2, 6, 7, 8, 9, 10], res := [6], keys := [0, 1, 2, 6, 7, 8, 9, 10, 14, 32, 37, 41, 61, 65, 78, 98, 103, 116], bk := [], dat := [0, 1, 2, 6, 7, 8, 9, 10] }),
 (206, { fn := f206, var := [0, 1, 2, 3, 4], res := [4], keys := [0, 1, 4], bk := [], dat := [0, 1, 2, 3, 4] }),
 (207, { fn := f207, var := [0, 1, 2, 3, 4, 5, 6, 7, 8, 9, 10], res := [8], keys := [0, 1, 2, 3, 8, 9, 10, 43, 59, 64], bk := [], dat := [0, 1, 2, 3, 4, 5, 6, 7, 8, 9, 10] })],
 [  (208, { fn := f208, var := [0, 1, 2, 3, 8, 9, 10, 11], res := [8, 9], keys := [0, 1, 2, 3, 8, 9, 10, 11, 43, 60, 65, 112, 129, 134], bk := [], dat := [0, 1, 2, 3, 8, 9, 10, 11] }),
 (209, { fn := f209, var := [0, 1, 2], res := [2], keys := [0, 2, 4, 8], bk := [], dat := [0, 1, 2] }),
 (210, { fn := f210, var := [0, 1, 2], res := [2], keys := [0, 2, 4, 8, 14], bk := [], dat := [0, 1, 2] }),
 (211, { fn := f211, var := [0, 1, 2, 3], res := [], keys := [0, 1, 8], bk := [], dat := [0, 1, 2, 3] }),
 (212, { fn := f212, var := [0, 1], res := [], keys := [0], bk := [], dat := [0, 1] }),
 (213, { fn := f213, var := [0, 1, 2, 3, 4], res := [4], keys := [0, 1, 4, 6, 16], bk := [], dat := [0, 1, 2, 3, 4] }),
 (214, { fn := f214, var := [0, 1, 2], res := [2], keys := [0, 2], bk := [], dat := [0, 1, 2] }),
 (215, { fn := f215, var := [0, 1, 2], res := [2], keys := [0, 2, 3], bk := [], dat := [0, 1, 2] })],
 [  (216, { fn := f216, var := [0, 1, 2], res := [2], keys := [0, 2], bk := [], dat := [0, 1, 2] }),
 (217, { fn := f217, var := [0, 1, 2], res := [2], keys := [0, 2], bk := [], dat := [0, 1, 2] }),
 (218, { fn := f218, var := [0, 1, 2, 3, 4, 5, 6, 7, 8, 9, 10, 11, 12], res := [2, 3], keys := [0, 2, 3, 4, 5, 6, 7, 8, 9, 10, 11, 12, 16, 23, 45, 57, 59, 75, 77, 98], bk := [.loc 9], dat := [0, 1, 2, 3, 4, 5, 6, 7, 8, 9, 10, 11, 12] }),
 (219, { fn := f219, var := [0, 1, 4, 5, 6, 7, 8, 9, 10, 11, 12, 13, 14, 15, 16, 160, 171, 183], res := [4], keys := [0, 1, 4, 5, 6, 7, 8, 9, 10, 11, 12, 13, 14, 15, 16, 26, 33, 43, 51, 64, 98, 108, 124, 139, 143, 156, 160, 171, 175, 176, 177, 181, 183], bk := [], dat := [0, 1, 4, 5, 6, 7, 8, 9, 10, 11, 12, 13, 14, 15, 16, 160, 171, 183] }),
 (220, { fn := f220, var := [0, 1, 2, 3, 4, 5, 6, 7, 8, 9], res := [], keys := [0, 1, 2, 3, 8, 9, 16, 36, 52], bk := [], dat := [0, 1, 2, 3, 4, 5, 6, 7, 8, 9] }),
 (221, { fn := f221, var := [0, 1, 2], res := [2], keys := [0, 2], bk := [], dat := [0, 1, 2] }),
 (222, { fn := f222, var := [0, 1, 2], res := [2], keys := [0, 2], bk := [], dat := [0, 1, 2] }),
 (223, { fn := f223, var := [0, 1, 2, 3, 4, 5, 6], res := [6], keys := [0, 1, 2, 6], bk := [], dat := [0, 1, 2, 3, 4, 5, 6] })],
 [  (224, { fn := f224, var := [0, 1, 2, 3, 4, 5, 6, 7, 8, 9, 10], res := [10], keys := [0, 1, 2, 3, 4, 10], bk := [], dat := [0, 1, 2, 3, 4, 5, 6, 7, 8, 9, 10] }),
 (225, { fn := f225, var := [0, 1, 2], res := [2], keys := [0, 2], bk := [], dat := [0, 1, 2] }),
 (226, { fn := f226, var := [0, 1, 2], res := [2], keys := [0, 2], bk := [], dat := [0, 1, 2] }),
 (227, { fn := f227, var := [0, 1, 2, 3], res := [], keys := [0, 1, 15], bk := [], dat := [0, 1, 2, 3] }),
 (228, { fn := f228, var := [0, 2, 3, 4, 5, 7, 8, 9, 10, 12, 13, 14], res := [2], keys := [0, 2, 3, 4, 5, 6, 7, 8, 9, 10, 11, 12, 13, 14, 28, 40, 48, 58, 59, 61, 62, 73, 100, 117], bk := [.loc 6, .loc 11, .esc 35 0, .esc 35 1, .esc 50 0, .esc 50 1], dat := [0, 2, 3, 4, 5, 7, 8, 9, 10, 12, 13, 14] }),
 (229, { fn := f229, var := [0, 1, 2], res := [2], keys := [0, 2, 4], bk := [], dat := [0, 1, 2] }),
 (230, { fn := f230, var := [0, 1, 2], res := [2], keys := [0, 2, 4], bk := [], dat := [0, 1, 2] }),
 (231, { fn := f231, var := [0, 1, 2, 3, 10], res := [2], keys := [0, 2, 3, 10], bk := [], dat := [0, 1, 2, 3, 10] })],
 [  (232, { fn := f232, var := [0, 1, 2, 3, 4, 5, 6, 7, 8, 9], res := [8, 9], keys := [0, 1, 2, 3, 8, 9, 18], bk := [], dat := [0, 1, 2, 3, 4, 5, 6, 7, 8, 9] }),
 (233, { fn := f233, var := [0], res := [], keys := [], bk := [], dat := [0] }),
 (234, { fn := f234, var := [0, 1], res := [], keys := [0], bk := [], dat := [0, 1] }),
 (235, { fn := f235, var := [0, 1], res := [], keys := [0], bk := [], dat := [0, 1] }),
 (236, { fn := f236, var := [0, 1, 2, 3], res := [], keys := [0, 1], bk := [], dat := [0, 1, 2, 3] }),
 (237, { fn := f237, var := [0, 1, 2, 3, 4], res := [4], keys := [0, 1, 4], bk := [.loc 9, .esc 6 0, .esc 6 1], dat := [0, 1, 2, 3, 4] }),
 (238, { fn := f238, var := [0, 1, 2, 3, 4, 5, 6, 7, 8, 9, 10, 11, 12], res := [2], keys := [0, 2, 3, 4, 5, 6, 8, 9, 10, 11, 12, 17, 27, 40, 41, 42, 57, 58, 59, 63, 95], bk := [.loc 13], dat := [0, 1, 2, 3, 4, 5, 6, 7, 8, 9, 10, 11, 12] }),
 (239, { fn := f239, var := [0, 1], res := [], keys := [0, 6], bk := [], dat := [0, 1] })],
 [  (240, { fn := f240, var := [0, 1, 2], res := [], keys := [0, 2, 16], bk := [], dat := [0, 1, 2] }),
 (241, { fn := f241, var := [0, 1], res := [], keys := [], bk := [], dat := [0, 1] }),
 (242, { fn := f242, var := [0, 1, 2], res := [2], keys := [0, 2, 3], bk := [], dat := [0, 1, 2] }),
 (243, { fn := f243, var := [0, 1, 2, 3, 4, 5, 6, 7, 8, 9, 10], res := [2], keys := [0, 2, 3, 4, 5, 6, 7, 8, 9, 10, 20, 21, 33, 49, 57, 73, 92], bk := [.loc 16], dat := [0, 1, 2, 3, 4, 5, 6, 7, 8, 9, 10] }),
 (244, { fn := f244, var := [0, 1, 2, 3, 4, 10, 11, 12, 13, 14], res := [], keys := [0, 1, 2, 3, 4, 10, 11, 12, 13, 14, 16, 21, 34, 47, 59, 66, 79, 85, 189, 204], bk := [.loc 100, .loc 101, .loc 163, .loc 210, .loc 230], dat := [0, 1, 2, 3, 4, 10, 11, 12, 13, 14] }),
 (245, { fn := f245, var := [], res := [], keys := [], bk := [], dat := [] }),
 (246, { fn := f246, var := [0, 1, 2], res := [], keys := [], bk := [], dat := [0, 1, 2] }),
 (247, { fn := f247, var := [], res := [], keys := [], bk := [], dat := [] })],
 [  (248, { fn := f248, var := [0], res := [], keys := [], bk := [], dat := [0] }),
 (249, { fn := f249, var := [0, 2, 3, 4, 5, 6, 7, 8, 9], res := [], keys := [0, 2, 3, 4, 5, 6, 7, 8, 9, 20, 41, 52, 57, 65, 68, 71, 80, 83, 87, 107, 115, 123], bk := [], dat := [0, 2, 3, 4, 5, 6, 7, 8, 9] }),
 (250, { fn := f250, var := [0], res := [], keys := [], bk := [], dat := [0] }),
 (251, { fn := f251, var := [0, 1], res := [], keys := [], bk := [], dat := [0, 1] }),
 (252, { fn := f252, var := [0, 1, 2, 3, 4], res := [], keys := [0, 1, 4, 8, 12, 21, 30], bk := [], dat := [0, 1, 2, 3, 4] }),
 (253, { fn := f253, var := [0, 1, 2, 3, 4], res := [4], keys := [0, 1, 4, 14, 31], bk := [], dat := [0, 1, 2, 3, 4] }),
 (254, { fn := f254, var := [0], res := [], keys := [], bk := [], dat := [0] }),
 (255, { fn := f255, var := [], res := [], keys := [], bk := [], dat := [] })],
 [  (256, { fn := f256, var := [0], res := [], keys := [], bk := [], dat := [0] }),
 (257, { fn := f257, var := [], res := [], keys := [], bk := [], dat := [] }),
 (258, { fn := f258, var := [0, 1, 2], res := [], keys := [], bk := [], dat := [0, 1, 2] }),
 (259, { fn := f259, var := [0], res := [], keys := [], bk := [], dat := [0] }),
 (260, { fn := f260, var := [0, 1, 2], res := [], keys := [], bk := [], dat := [0, 1, 2] })]]
set_option maxRecDepth 100000 in
theorem X_ok : AllP (AllP (fun x => prog.funcs[x.1]? = some x.2.fn ∧ (x.2.fn.name == "runtime.NumGoroutine") = false)) X := ⟨⟨⟨func3, by kernel_rfl⟩, ⟨func4, by kernel_rfl⟩, ⟨func5, by kernel_rfl⟩, ⟨func6, by kernel_rfl⟩, ⟨func7, by kernel_rfl⟩, trivial⟩, ⟨⟨func8, by kernel_rfl⟩, ⟨func9, by kernel_rfl⟩, ⟨func10, by kernel_rfl⟩, ⟨func11, by kernel_rfl⟩, ⟨func12, by kernel_rfl⟩, ⟨func13, by kernel_rfl⟩, ⟨func14, by kernel_rfl⟩, ⟨func15, by kernel_rfl⟩, trivial⟩, ⟨⟨func16, by kernel_rfl⟩, ⟨func17, by kernel_rfl⟩, ⟨func18, by kernel_rfl⟩, ⟨func19, by kernel_rfl⟩, ⟨func20, by kernel_rfl⟩, ⟨func21, by kernel_rfl⟩, ⟨func22, by kernel_rfl⟩, ⟨func23, by kernel_rfl⟩, trivial⟩, ⟨⟨func24, by kernel_rfl⟩, ⟨func25, by kernel_rfl⟩, ⟨func26, by kernel_rfl⟩, ⟨func27, by kernel_rfl⟩, ⟨func28, by kernel_rfl⟩, ⟨func29, by kernel_rfl⟩, ⟨func30, by kernel_rfl⟩, ⟨func31, by kernel_rfl⟩, trivial⟩, ⟨⟨func32, by kernel_rfl⟩, ⟨func33, by kernel_rfl⟩, ⟨func34, by kernel_rfl⟩, ⟨func35, by kernel_rfl⟩, ⟨func36, by kernel_rfl⟩, ⟨func37, by kernel_rfl⟩, ⟨func38, by kernel_rfl⟩, ⟨func39, by kernel_rfl⟩, trivial⟩, ⟨⟨func40, by kernel_rfl⟩, ⟨func41, by kernel_rfl⟩, ⟨func42, by kernel_rfl⟩, ⟨func43, by kernel_rfl⟩, ⟨func44, by kernel_rfl⟩, ⟨func45, by kernel_rfl⟩, ⟨func46, by kernel_rfl⟩, ⟨func47, by kernel_rfl⟩, trivial⟩, ⟨⟨func48, by kernel_rfl⟩, ⟨func49, by kernel_rfl⟩, ⟨func50, by kernel_rfl⟩, ⟨func51, by kernel_rfl⟩, ⟨func52, by kernel_rfl⟩, ⟨func53, by kernel_rfl⟩, ⟨func54, by kernel_rfl⟩, ⟨func55, by kernel_rfl⟩, trivial⟩, ⟨⟨func56, by kernel_rfl⟩, ⟨func57, by kernel_rfl⟩, ⟨func58, by kernel_rfl⟩, ⟨func59, by kernel_rfl⟩, ⟨func60, by kernel_rfl⟩, ⟨func61, by kernel_rfl⟩, ⟨func62, by kernel_rfl⟩, ⟨func63, by kernel_rfl⟩, trivial⟩, ⟨⟨func64, by kernel_rfl⟩, ⟨func65, by kernel_rfl⟩, ⟨func66, by kernel_rfl⟩, ⟨func67, by kernel_rfl⟩, ⟨func68, by kernel_rfl⟩, ⟨func69, by kernel_rfl⟩, ⟨func70, by kernel_rfl⟩, ⟨func71, by kernel_rfl⟩, trivial⟩, ⟨⟨func72, by kernel_rfl⟩, ⟨func73, by kernel_rfl⟩, ⟨func74, by kernel_rfl⟩, ⟨func75, by kernel_rfl⟩, ⟨func76, by kernel_rfl⟩, ⟨func77, by kernel_rfl⟩, ⟨func78, by kernel_rfl⟩, ⟨func79, by kernel_rfl⟩, trivial⟩, ⟨⟨func80, by kernel_rfl⟩, ⟨func81, by kernel_rfl⟩, ⟨func82, by kernel_rfl⟩, ⟨func83, by kernel_rfl⟩, ⟨func84, by kernel_rfl⟩, ⟨func85, by kernel_rfl⟩, ⟨func86, by kernel_rfl⟩, ⟨func87, by kernel_rfl⟩, trivial⟩, ⟨⟨func88, by kernel_rfl⟩, ⟨func89, by kernel_rfl⟩, ⟨func90, by kernel_rfl⟩, ⟨func91, by kernel_rfl⟩, ⟨func92, by kernel_rfl⟩, ⟨func93, by kernel_rfl⟩, ⟨func94, by kernel_rfl⟩, ⟨func95, by kernel_rfl⟩, trivial⟩, ⟨⟨func96, by kernel_rfl⟩, ⟨func97, by kernel_rfl⟩, ⟨func98, by kernel_rfl⟩, ⟨func99, by kernel_rfl⟩, ⟨func100, by kernel_rfl⟩, ⟨func101, by kernel_rfl⟩, ⟨func102, by kernel_rfl⟩, ⟨func103, by kernel_rfl⟩, trivial⟩, ⟨⟨func104, by kernel_rfl⟩, ⟨func105, by kernel_rfl⟩, ⟨func106, by kernel_rfl⟩, ⟨func107, by kernel_rfl⟩, ⟨func108, by kernel_rfl⟩, ⟨func109, by kernel_rfl⟩, ⟨func110, by kernel_rfl⟩, ⟨func111, by kernel_rfl⟩, trivial⟩, ⟨⟨func112, by kernel_rfl⟩, ⟨func113, by kernel_rfl⟩, ⟨func114, by kernel_rfl⟩, ⟨func115, by kernel_rfl⟩, ⟨func116, by kernel_rfl⟩, ⟨func117, by kernel_rfl⟩, ⟨func118, by kernel_rfl⟩, ⟨func119, by kernel_rfl⟩, trivial⟩, ⟨⟨func120, by kernel_rfl⟩, ⟨func121, by kernel_rfl⟩, ⟨func122, by kernel_rfl⟩, ⟨func123, by kernel_rfl⟩, ⟨func124, by kernel_rfl⟩, ⟨func125, by kernel_rfl⟩, ⟨func126, by kernel_rfl⟩, ⟨func127, by kernel_rfl⟩, trivial⟩, ⟨⟨func128, by kernel_rfl⟩, ⟨func129, by kernel_rfl⟩, ⟨func130, by kernel_rfl⟩, ⟨func131, by kernel_rfl⟩, ⟨func132, by kernel_rfl⟩, ⟨func133, by kernel_rfl⟩, ⟨func134, by kernel_rfl⟩, ⟨func135, by kernel_rfl⟩, trivial⟩, ⟨⟨func136, by kernel_rfl⟩, ⟨func137, by kernel_rfl⟩, ⟨func138, by kernel_rfl⟩, ⟨func139, by kernel_rfl⟩, ⟨func140, by kernel_rfl⟩, ⟨func141, by kernel_rfl⟩, ⟨func142, by kernel_rfl⟩, ⟨func143, by kernel_rfl⟩, trivial⟩, ⟨⟨func144, by kernel_rfl⟩, ⟨func145, by kernel_rfl⟩, ⟨func146, by kernel_rfl⟩, ⟨func147, by kernel_rfl⟩, ⟨func148, by kernel_rfl⟩, ⟨func149, by kernel_rfl⟩, ⟨func150, by kernel_rfl⟩, ⟨func151, by kernel_rfl⟩, trivial⟩, ⟨⟨func152, by kernel_rfl⟩, ⟨func153, by kernel_rfl⟩, ⟨func154, by kernel_rfl⟩, ⟨func155, by kernel_rfl⟩, ⟨func156, by kernel_rfl⟩, ⟨func157, by kernel_rfl⟩, ⟨func158, by kernel_rfl⟩, ⟨func159, by kernel_rfl⟩, trivial⟩, ⟨⟨func160, by kernel_rfl⟩, ⟨func161, by kernel_rfl⟩, ⟨func162, by kernel_rfl⟩, ⟨func163, by kernel_rfl⟩, ⟨func164, by kernel_rfl⟩, ⟨func165, by kernel_rfl⟩, ⟨func166, by kernel_rfl⟩, ⟨func167, by kernel_rfl⟩, trivial⟩, ⟨⟨func168, by kernel_rfl⟩, ⟨func169, by kernel_rfl⟩, ⟨func170, by kernel_rfl⟩, ⟨func171, by kernel_rfl⟩, ⟨func172, by kernel_rfl⟩, ⟨func173, by kernel_rfl⟩, ⟨func174, by kernel_rfl⟩, ⟨func175, by kernel_rfl⟩, trivial⟩, ⟨⟨func176, by kernel_rfl⟩, ⟨func177, by kernel_rfl⟩, ⟨func178, by kernel_rfl⟩, ⟨func179, by kernel_rfl⟩, ⟨func180, by kernel_rfl⟩, ⟨func181, by kernel_rfl⟩, ⟨func182, by kernel_rfl⟩, ⟨func183, by kernel_rfl⟩, trivial⟩, ⟨⟨func184, by kernel_rfl⟩, ⟨func185, by kernel_rfl⟩, ⟨func186, by kernel_rfl⟩, ⟨func187, by kernel_rfl⟩, ⟨func188, by kernel_rfl⟩, ⟨func189, by kernel_rfl⟩, ⟨func190, by kernel_rfl⟩, ⟨func191, by kernel_rfl⟩, trivial⟩, ⟨⟨func192, by kernel_rfl⟩, ⟨func193, by kernel_rfl⟩, ⟨func194, by kernel_rfl⟩, ⟨func195, by kernel_rfl⟩, ⟨func196, by kernel_rfl⟩, ⟨func197, by kernel_rfl⟩, ⟨func198, by kernel_rfl⟩, ⟨func199, by kernel_rfl⟩, trivial⟩, ⟨⟨func200, by kernel_rfl⟩, ⟨func201, by kernel_rfl⟩, ⟨func202, by kernel_rfl⟩, ⟨func203, by kernel_rfl⟩, ⟨func204, by kernel_rfl⟩, ⟨func205, by kernel_rfl⟩, ⟨func206, by kernel_rfl⟩, ⟨func207, by kernel_rfl⟩, trivial⟩, ⟨⟨func208, by kernel_rfl⟩, ⟨func209, by kernel_rfl⟩, ⟨func210, by kernel_rfl⟩, ⟨func211, by kernel_rfl⟩, ⟨func212, by kernel_rfl⟩, ⟨func213, by kernel_rfl⟩, ⟨func214, by kernel_rfl⟩, ⟨func215, by kernel_rfl⟩, trivial⟩, ⟨⟨func216, by kernel_rfl⟩, ⟨func217, by kernel_rfl⟩, ⟨func218, by kernel_rfl⟩, ⟨func219, by kernel_rfl⟩, ⟨func220, by kernel_rfl⟩, ⟨func221, by kernel_rfl⟩, ⟨func222, by kernel_rfl⟩, ⟨func223, by kernel_rfl⟩, trivial⟩, ⟨⟨func224, by kernel_rfl⟩, ⟨func225, by kernel_rfl⟩, ⟨func226, by kernel_rfl⟩, ⟨func227, by kernel_rfl⟩, ⟨func228, by kernel_rfl⟩, ⟨func229, by kernel_rfl⟩, ⟨func230, by kernel_rfl⟩, ⟨func231, by kernel_rfl⟩, trivial⟩, ⟨⟨func232, by kernel_rfl⟩, ⟨func233, by kernel_rfl⟩, ⟨func234, by kernel_rfl⟩, ⟨func235, by kernel_rfl⟩, ⟨func236, by kernel_rfl⟩, ⟨func237, by kernel_rfl⟩, ⟨func238, by kernel_rfl⟩, ⟨func239, by kernel_rfl⟩, trivial⟩, ⟨⟨func240, by kernel_rfl⟩, ⟨func241, by kernel_rfl⟩, ⟨func242, by kernel_rfl⟩, ⟨func243, by kernel_rfl⟩, ⟨func244, by kernel_rfl⟩, ⟨func245, by kernel_rfl⟩, ⟨func246, by kernel_rfl⟩, ⟨func247, by kernel_rfl⟩, trivial⟩, ⟨⟨func248, by kernel_rfl⟩, ⟨func249, by kernel_rfl⟩, ⟨func250, by kernel_rfl⟩, ⟨func251, by kernel_rfl⟩, ⟨func252, by kernel_rfl⟩, ⟨func253, by kernel_rfl⟩, ⟨func254, by kernel_rfl⟩, ⟨func255, by kernel_rfl⟩, trivial⟩, ⟨⟨func256, by kernel_rfl⟩, ⟨func257, by kernel_rfl⟩, ⟨func258, by kernel_rfl⟩, ⟨func259, by kernel_rfl⟩, ⟨func260, by kernel_rfl⟩, trivial⟩, trivial⟩
noncomputable def E0 (A0 : FuncId → AFun) : XE := { T := T, eqs := EQ, A0 := A0, tab := fun f => xlk8 f X, fuel := 100000 }
theorem E0_ok {A0 : FuncId → AFun} (h : ∀ g, CallOK prog g (A0 g)) : XOK prog (E0 A0) :=
 ⟨mix, fun t i hi => AllP.mem T_ok (t, i) (lk_mem hi), fun t sh ht => AllP.mem EQ_ok (t, sh) (lk_mem ht), h, fun f I hf => xlk8_all X_ok hf⟩
end Go.Proofs.YtmoineigflegeaaGreatDoor.vx
namespace Go.Proofs.YtmoineigflegeaaGreatDoor.vx
open Go Go.Vs Go.Ve Go.Proofs.Tryz
noncomputable def TT : List (List (Nat × AFun)) := [[],
 [],
 [(16, ve.C16.F)],
 [(29, ve.C29.F)],
 [(34, ve.C34.F), (35, ve.C35.F), (36, ve.C36.F), (37, ve.C37.F), (38, ve.C38d.F), (39, ve.C39.F)],
 [(44, ve.C44.F), (47, ve.C47.F)],
 [(51, ve.C51.F)],
 [(56, ve.C56.F), (61, ve.C61.F), (63, ve.C63.F)],
 [(65, ve.C65.F), (66, ve.C66.F), (67, ve.C67.F), (68, ve.C68.F)],
 [(77, ve.C77.F), (78, ve.C78.F), (79, ve.C79.F)],
 [],
 [(88, ve.C88.F)],
 [(97, ve.C97.F), (98, ve.C98.F), (101, ve.C101.F)],
 [(104, ve.C104.F), (105, ve.C105.F)],
 [],
 [(122, ve.C122.F)],
 [(134, ve.C134.F), (135, ve.C135.F)],
 [(136, ve.C136.F)],
 [(145, ve.C145.F)],
 [],
 [(163, ve.C163.F), (165, ve.C165.F), (167, ve.C167.F)],
 [],
 [],
 [(189, ve.C189.F)]]
theorem TT_ok : AllP (AllP (fun x => CallOK prog x.1 x.2)) TT := ⟨trivial, trivial, ⟨ve.G16, trivial⟩, ⟨ve.G29, trivial⟩, ⟨ve.G34, ve.G35, ve.G36, ve.G37, ve.G38d, ve.G39, trivial⟩, ⟨ve.G44, ve.G47, trivial⟩, ⟨ve.G51, trivial⟩, ⟨ve.G56, ve.G61, ve.G63, trivial⟩, ⟨ve.G65, ve.G66, ve.G67, ve.G68, trivial⟩, ⟨ve.G77, ve.G78, ve.G79, trivial⟩, trivial, ⟨ve.G88, trivial⟩, ⟨ve.G97, ve.G98, ve.G101, trivial⟩, ⟨ve.G104, ve.G105, trivial⟩, trivial, ⟨ve.G122, trivial⟩, ⟨ve.G134, ve.G135, trivial⟩, ⟨ve.G136, trivial⟩, ⟨ve.G145, trivial⟩, trivial, ⟨ve.G163, ve.G165, ve.G167, trivial⟩, trivial, trivial, ⟨ve.G189, trivial⟩, trivial⟩
noncomputable def A1 : FuncId → AFun := fun g => match xlk8 g TT with
 | some F => F
 | none => A0 g
theorem A1_ok (g : FuncId) : CallOK prog g (A1 g) := by
 unfold A1
 split
 ·rename_i F h
  exact xlk8_all TT_ok h
 ·exact A0_ok g
end Go.Proofs.YtmoineigflegeaaGreatDoor.vx
namespace Go.Proofs.YtmoineigflegeaaGreatDoor.vx
open Go Go.Vs Go.Proofs.Tryz
noncomputable def K_P8 : Fact := { f := 6, args := [.one (.d (.int .i64 3)), .one (.d (.str [116, 101, 120, 116, 10, 34, 97, 34]))], boxes := [], r := { v := .tup [(true, [.d (.int .i64 3), .d (.sl 3 [[.bool false, .str [], .str [116, 101, 120, 116, 10, 34]], [.bool true, .str [49], .str [97]], [.bool false, .str [], .str [34]]])]), (false, [.d (.int .i64 0)]), (false, [.d (.int .i64 0)])], boxes := [], frz := [] } }
set_option maxRecDepth 100000 in
theorem K_P8_ok : FactOk prog K_P8 := fact_of (E := E0 A1) (E0_ok A1_ok) (n := 30) (by kernel_rfl)
end Go.Proofs.YtmoineigflegeaaGreatDoor.vx
namespace Go.Proofs.YtmoineigflegeaaGreatDoor.ve
open Go Go.Vs Go.Ve Go.Fn Go.Proofs.Tryz
set_option linter.unusedVariables false
def S6 : Sig := { args := [.one (.i .i64), .one .s], boxes := [], res := [.row (.pair (.int .i64) (.sl (.pair .bool (.pair .str .str)))), .one (.i .i64), .one (.i .i64)], rbox := [], frz := [] }
noncomputable def C6 : Con := S6.con (by kernel_rfl) (fun x => lim_parse x.1 x.2)
set_option maxRecDepth 100000 in
theorem G6 : Good1 prog (6, C6) := by
 refine call_of fun x y h => ?_
 obtain ⟨hx, rfl⟩ := oneO_some (h : oneO _ _ _ = some y)
 have hx : x = (3, [116, 101, 120, 116, 10, 34, 97, 34]) := hx
 subst hx
 exact vx.K_P8_ok
end Go.Proofs.YtmoineigflegeaaGreatDoor.ve
namespace Go.Proofs.YtmoineigflegeaaGreatDoor.ve
open Go Go.Vs Go.Ve Go.Fn Go.Proofs.Tryz
set_option linter.unusedVariables false
def F5 : VFE := { cfg := { N := 14, T := T, R := R, con := fun _ f => lkF f [], var := [0, 1, 2, 3, 4], res := [4], eqs := EQ }, keys := [0, 1, 4, 9], bkeys := [] }
def S5 : Sig := { args := [.one (.i .i64), .one (.i .i64)], boxes := [], res := [.one (.i .i64)], rbox := [], frz := [] }
def L5 : Nat → Option LoopRec := fun _ => none
set_option maxRecDepth 100000 in
theorem run5 : ∀ x, gives F5 L5 f5 S5 x = (fun x => bitextmake_Place x.1 x.2) x := by
 intro x
 kernel_rfl
theorem fn5 : FnCalls prog 5 (S5.F (fun x => bitextmake_Place x.1 x.2)) := fn_sig (F := F5) (tbl := L5) func5 (by kernel_rfl) mix (cok_list (l := []) (tabsT rfl rfl) rfl (by simp)) (by kernel_rfl) (by kernel_rfl) (by decide) (fun _ => by kernel_rfl) run5
def C5 : Con := S5.con (by kernel_rfl) (fun x => bitextmake_Place x.1 x.2)
theorem G5 : Good1 prog (5, C5) := good_of func5 (by kernel_rfl) (by kernel_rfl) fn5
end Go.Proofs.YtmoineigflegeaaGreatDoor.ve
namespace Go.Proofs.YtmoineigflegeaaGreatDoor.vx
open Go Go.Vs Go.Proofs.Tryz
noncomputable def K_V8 : Fact := { f := 13, args := [(.agg [.d (.int .i64 3), .d (.sl 3 [[.bool false, .str [], .str [116, 101, 120, 116, 10, 34]], [.bool true, .str [49], .str [97]], [.bool false, .str [], .str [34]]])])], boxes := [], r := { v := .one (.d (.int .i64 0)), boxes := [], frz := [] } }
set_option maxRecDepth 100000 in
theorem K_V8_ok : FactOk prog K_V8 := fact_of (E := E0 A1) (E0_ok A1_ok) (n := 30) (by kernel_rfl)
end Go.Proofs.YtmoineigflegeaaGreatDoor.vx
namespace Go.Proofs.YtmoineigflegeaaGreatDoor.vx
open Go Go.Vs Go.Proofs.Tryz
noncomputable def K_R1 : Fact := { f := 17, args := [.one (.d .nil), .one (.d (.sl 3 [[.int .i64 1, .str [97], .int .i64 0]]))], boxes := [], r := { v := .one (.own 2 [[.int .i64 0, .int .i64 1]]), boxes := [], frz := [] } }
set_option maxRecDepth 100000 in
theorem K_R1_ok : FactOk prog K_R1 := fact_of (E := E0 A1) (E0_ok A1_ok) (n := 30) (by kernel_rfl)
end Go.Proofs.YtmoineigflegeaaGreatDoor.vx
namespace Go.Proofs.YtmoineigflegeaaGreatDoor.vx
open Go Go.Vs Go.Proofs.Tryz
noncomputable def K_C1 : Fact := { f := 15, args := [.agg [.d (.int .i64 3), .d (.sl 3 [[.bool false, .str [], .str [116, 101, 120, 116, 10, 34]], [.bool true, .str [49], .str [97]], [.bool false, .str [], .str [34]]])]], boxes := [], r := { v := .one (.own 4295098370 [[.int .i64 1, .sl 3 [[.int .i64 1, .str [97], .int .i64 0]]]]), boxes := [], frz := [] } }
set_option maxRecDepth 100000 in
theorem K_C1_ok : FactOk prog K_C1 := fact_of (E := E0 A1) (E0_ok A1_ok) (n := 30) (by kernel_rfl)
end Go.Proofs.YtmoineigflegeaaGreatDoor.vx
namespace Go.Proofs.YtmoineigflegeaaGreatDoor.vx
open Go Go.Vs Go.Proofs.Tryz
noncomputable def K_B15 : Fact := { f := 7, args := [.one (.d (.sl 2 [[.int .i64 3, .sl 3 [[.bool false, .str [], .str [116, 101, 120, 116, 10, 34]], [.bool true, .str [49], .str [97]], [.bool false, .str [], .str [34]]]], [.int .i64 3, .sl 3 [[.bool false, .str [], .str [116, 101, 120, 116, 10, 34]], [.bool true, .str [49], .str [97]], [.bool false, .str [], .str [34]]]], [.int .i64 3, .sl 3 [[.bool false, .str [], .str [116, 101, 120, 116, 10, 34]], [.bool true, .str [49], .str [97]], [.bool false, .str [], .str [34]]]], [.int .i64 3, .sl 3 [[.bool false, .str [], .str [116, 101, 120, 116, 10, 34]], [.bool true, .str [49], .str [97]], [.bool false, .str [], .str [34]]]], [.int .i64 3, .sl 3 [[.bool false, .str [], .str [116, 101, 120, 116, 10, 34]], [.bool true, .str [49], .str [97]], [.bool false, .str [], .str [34]]]], [.int .i64 3, .sl 3 [[.bool false, .str [], .str [116, 101, 120, 116, 10, 34]], [.bool true, .str [49], .str [97]], [.bool false, .str [], .str [34]]]], [.int .i64 3, .sl 3 [[.bool false, .str [], .str [116, 101, 120, 116, 10, 34]], [.bool true, .str [49], .str [97]], [.bool false, .str [], .str [34]]]], [.int .i64 3, .sl 3 [[.bool false, .str [], .str [116, 101, 120, 116, 10, 34]], [.bool true, .str [49], .str [97]], [.bool false, .str [], .str [34]]]], [.int .i64 3, .sl 3 [[.bool false, .str [], .str [116, 101, 120, 116, 10, 34]], [.bool true, .str [49], .str [97]], [.bool false, .str [], .str [34]]]], [.int .i64 3, .sl 3 [[.bool false, .str [], .str [116, 101, 120, 116, 10, 34]], [.bool true, .str [49], .str [97]], [.bool false, .str [], .str [34]]]], [.int .i64 3, .sl 3 [[.bool false, .str [], .str [116, 101, 120, 116, 10, 34]], [.bool true, .str [49], .str [97]], [.bool false, .str [], .str [34]]]], [.int .i64 3, .sl 3 [[.bool false, .str [], .str [116, 101, 120, 116, 10, 34]], [.bool true, .str [49], .str [97]], [.bool false, .str [], .str [34]]]], [.int .i64 3, .sl 3 [[.bool false, .str [], .str [116, 101, 120, 116, 10, 34]], [.bool true, .str [49], .str [97]], [.bool false, .str [], .str [34]]]], [.int .i64 3, .sl 3 [[.bool false, .str [], .str [116, 101, 120, 116, 10, 34]], [.bool true, .str [49], .str [97]], [.bool false, .str [], .str [34]]]], [.int .i64 3, .sl 3 [[.bool false, .str [], .str [116, 101, 120, 116, 10, 34]], [.bool true, .str [49], .str [97]], [.bool false, .str [], .str [34]]]]])), .one (.d .nil)], boxes := [], r := { v := .tup [(true, [.d (.sl 2 [[.int .i64 3, .sl 3 [[.bool false, .str [], .str [116, 101, 120, 116, 10, 34]], [.bool true, .str [49], .str [97]], [.bool false, .str [], .str [34]]]], [.int .i64 3, .sl 3 [[.bool false, .str [], .str [116, 101, 120, 116, 10, 34]], [.bool true, .str [49], .str [97]], [.bool false, .str [], .str [34]]]], [.int .i64 3, .sl 3 [[.bool false, .str [], .str [116, 101, 120, 116, 10, 34]], [.bool true, .str [49], .str [97]], [.bool false, .str [], .str [34]]]], [.int .i64 3, .sl 3 [[.bool false, .str [], .str [116, 101, 120, 116, 10, 34]], [.bool true, .str [49], .str [97]], [.bool false, .str [], .str [34]]]], [.int .i64 3, .sl 3 [[.bool false, .str [], .str [116, 101, 120, 116, 10, 34]], [.bool true, .str [49], .str [97]], [.bool false, .str [], .str [34]]]], [.int .i64 3, .sl 3 [[.bool false, .str [], .str [116, 101, 120, 116, 10, 34]], [.bool true, .str [49], .str [97]], [.bool false, .str [], .str [34]]]], [.int .i64 3, .sl 3 [[.bool false, .str [], .str [116, 101, 120, 116, 10, 34]], [.bool true, .str [49], .str [97]], [.bool false, .str [], .str [34]]]], [.int .i64 3, .sl 3 [[.bool false, .str [], .str [116, 101, 120, 116, 10, 34]], [.bool true, .str [49], .str [97]], [.bool false, .str [], .str [34]]]], [.int .i64 3, .sl 3 [[.bool false, .str [], .str [116, 101, 120, 116, 10, 34]], [.bool true, .str [49], .str [97]], [.bool false, .str [], .str [34]]]], [.int .i64 3, .sl 3 [[.bool false, .str [], .str [116, 101, 120, 116, 10, 34]], [.bool true, .str [49], .str [97]], [.bool false, .str [], .str [34]]]], [.int .i64 3, .sl 3 [[.bool false, .str [], .str [116, 101, 120, 116, 10, 34]], [.bool true, .str [49], .str [97]], [.bool false, .str [], .str [34]]]], [.int .i64 3, .sl 3 [[.bool false, .str [], .str [116, 101, 120, 116, 10, 34]], [.bool true, .str [49], .str [97]], [.bool false, .str [], .str [34]]]], [.int .i64 3, .sl 3 [[.bool false, .str [], .str [116, 101, 120, 116, 10, 34]], [.bool true, .str [49], .str [97]], [.bool false, .str [], .str [34]]]], [.int .i64 3, .sl 3 [[.bool false, .str [], .str [116, 101, 120, 116, 10, 34]], [.bool true, .str [49], .str [97]], [.bool false, .str [], .str [34]]]], [.int .i64 3, .sl 3 [[.bool false, .str [], .str [116, 101, 120, 116, 10, 34]], [.bool true, .str [49], .str [97]], [.bool false, .str [], .str [34]]]]]), .d (.sl 10 [[.int .i64 1, .int .i64 0, .int .i64 1, .int .i64 0, .int .i64 1, .int .i64 0, .nil, .str [], .int .i64 0, .bool false], [.int .i64 2, .int .i64 1, .int .i64 1, .int .i64 0, .int .i64 1, .int .i64 0, .nil, .str [], .int .i64 0, .bool false], [.int .i64 3, .int .i64 2, .int .i64 1, .int .i64 0, .int .i64 1, .int .i64 0, .nil, .str [], .int .i64 0, .bool false], [.int .i64 4, .int .i64 3, .int .i64 1, .int .i64 0, .int .i64 1, .int .i64 0, .nil, .str [], .int .i64 0, .bool false], [.int .i64 5, .int .i64 4, .int .i64 1, .int .i64 0, .int .i64 1, .int .i64 0, .nil, .str [], .int .i64 0, .bool false], [.int .i64 6, .int .i64 5, .int .i64 1, .int .i64 0, .int .i64 1, .int .i64 0, .nil, .str [], .int .i64 0, .bool false], [.int .i64 7, .int .i64 6, .int .i64 1, .int .i64 0, .int .i64 1, .int .i64 0, .nil, .str [], .int .i64 0, .bool false], [.int .i64 8, .int .i64 7, .int .i64 1, .int .i64 0, .int .i64 1, .int .i64 0, .nil, .str [], .int .i64 0, .bool false], [.int .i64 9, .int .i64 8, .int .i64 1, .int .i64 0, .int .i64 1, .int .i64 0, .nil, .str [], .int .i64 0, .bool false], [.int .i64 10, .int .i64 9, .int .i64 1, .int .i64 0, .int .i64 1, .int .i64 0, .nil, .str [], .int .i64 0, .bool false], [.int .i64 11, .int .i64 10, .int .i64 1, .int .i64 0, .int .i64 1, .int .i64 0, .nil, .str [], .int .i64 0, .bool false], [.int .i64 12, .int .i64 11, .int .i64 1, .int .i64 0, .int .i64 1, .int .i64 0, .nil, .str [], .int .i64 0, .bool false], [.int .i64 13, .int .i64 12, .int .i64 1, .int .i64 0, .int .i64 1, .int .i64 0, .nil, .str [], .int .i64 0, .bool false], [.int .i64 14, .int .i64 13, .int .i64 1, .int .i64 0, .int .i64 1, .int .i64 0, .nil, .str [], .int .i64 0, .bool false], [.int .i64 15, .int .i64 14, .int .i64 1, .int .i64 0, .int .i64 1, .int .i64 0, .nil, .str [], .int .i64 0, .bool false]]), .d (.int .i64 16)]), (false, [.d (.int .i64 0)])], boxes := [], frz := [] } }
set_option maxRecDepth 100000 in
theorem K_B15_ok : FactOk prog K_B15 := fact_of (E := E0 (memo [K_V8, K_R1, K_C1] A1)) (E0_ok (memo_ok A1_ok (AllP.mem ⟨K_V8_ok, K_R1_ok, K_C1_ok, trivial⟩))) (n := 30) (by kernel_rfl)
end Go.Proofs.YtmoineigflegeaaGreatDoor.vx
namespace Go.Proofs.YtmoineigflegeaaGreatDoor.vx
open Go Go.Vs Go.Proofs.Tryz
noncomputable def K_B16 : Fact := { f := 7, args := [.one (.d (.sl 2 [[.int .i64 3, .sl 3 [[.bool false, .str [], .str [116, 101, 120, 116, 10, 34]], [.bool true, .str [49], .str [97]], [.bool false, .str [], .str [34]]]], [.int .i64 3, .sl 3 [[.bool false, .str [], .str [116, 101, 120, 116, 10, 34]], [.bool true, .str [49], .str [97]], [.bool false, .str [], .str [34]]]], [.int .i64 3, .sl 3 [[.bool false, .str [], .str [116, 101, 120, 116, 10, 34]], [.bool true, .str [49], .str [97]], [.bool false, .str [], .str [34]]]], [.int .i64 3, .sl 3 [[.bool false, .str [], .str [116, 101, 120, 116, 10, 34]], [.bool true, .str [49], .str [97]], [.bool false, .str [], .str [34]]]], [.int .i64 3, .sl 3 [[.bool false, .str [], .str [116, 101, 120, 116, 10, 34]], [.bool true, .str [49], .str [97]], [.bool false, .str [], .str [34]]]], [.int .i64 3, .sl 3 [[.bool false, .str [], .str [116, 101, 120, 116, 10, 34]], [.bool true, .str [49], .str [97]], [.bool false, .str [], .str [34]]]], [.int .i64 3, .sl 3 [[.bool false, .str [], .str [116, 101, 120, 116, 10, 34]], [.bool true, .str [49], .str [97]], [.bool false, .str [], .str [34]]]], [.int .i64 3, .sl 3 [[.bool false, .str [], .str [116, 101, 120, 116, 10, 34]], [.bool true, .str [49], .str [97]], [.bool false, .str [], .str [34]]]], [.int .i64 3, .sl 3 [[.bool false, .str [], .str [116, 101, 120, 116, 10, 34]], [.bool true, .str [49], .str [97]], [.bool false, .str [], .str [34]]]], [.int .i64 3, .sl 3 [[.bool false, .str [], .str [116, 101, 120, 116, 10, 34]], [.bool true, .str [49], .str [97]], [.bool false, .str [], .str [34]]]], [.int .i64 3, .sl 3 [[.bool false, .str [], .str [116, 101, 120, 116, 10, 34]], [.bool true, .str [49], .str [97]], [.bool false, .str [], .str [34]]]], [.int .i64 3, .sl 3 [[.bool false, .str [], .str [116, 101, 120, 116, 10, 34]], [.bool true, .str [49], .str [97]], [.bool false, .str [], .str [34]]]], [.int .i64 3, .sl 3 [[.bool false, .str [], .str [116, 101, 120, 116, 10, 34]], [.bool true, .str [49], .str [97]], [.bool false, .str [], .str [34]]]], [.int .i64 3, .sl 3 [[.bool false, .str [], .str [116, 101, 120, 116, 10, 34]], [.bool true, .str [49], .str [97]], [.bool false, .str [], .str [34]]]], [.int .i64 3, .sl 3 [[.bool false, .str [], .str [116, 101, 120, 116, 10, 34]], [.bool true, .str [49], .str [97]], [.bool false, .str [], .str [34]]]], [.int .i64 3, .sl 3 [[.bool false, .str [], .str [116, 101, 120, 116, 10, 34]], [.bool true, .str [49], .str [97]], [.bool false, .str [], .str [34]]]]])), .one (.d .nil)], boxes := [], r := { v := .tup [(true, [.d (.sl 2 [[.int .i64 3, .sl 3 [[.bool false, .str [], .str [116, 101, 120, 116, 10, 34]], [.bool true, .str [49], .str [97]], [.bool false, .str [], .str [34]]]], [.int .i64 3, .sl 3 [[.bool false, .str [], .str [116, 101, 120, 116, 10, 34]], [.bool true, .str [49], .str [97]], [.bool false, .str [], .str [34]]]], [.int .i64 3, .sl 3 [[.bool false, .str [], .str [116, 101, 120, 116, 10, 34]], [.bool true, .str [49], .str [97]], [.bool false, .str [], .str [34]]]], [.int .i64 3, .sl 3 [[.bool false, .str [], .str [116, 101, 120, 116, 10, 34]], [.bool true, .str [49], .str [97]], [.bool false, .str [], .str [34]]]], [.int .i64 3, .sl 3 [[.bool false, .str [], .str [116, 101, 120, 116, 10, 34]], [.bool true, .str [49], .str [97]], [.bool false, .str [], .str [34]]]], [.int .i64 3, .sl 3 [[.bool false, .str [], .str [116, 101, 120, 116, 10, 34]], [.bool true, .str [49], .str [97]], [.bool false, .str [], .str [34]]]], [.int .i64 3, .sl 3 [[.bool false, .str [], .str [116, 101, 120, 116, 10, 34]], [.bool true, .str [49], .str [97]], [.bool false, .str [], .str [34]]]], [.int .i64 3, .sl 3 [[.bool false, .str [], .str [116, 101, 120, 116, 10, 34]], [.bool true, .str [49], .str [97]], [.bool false, .str [], .str [34]]]], [.int .i64 3, .sl 3 [[.bool false, .str [], .str [116, 101, 120, 116, 10, 34]], [.bool true, .str [49], .str [97]], [.bool false, .str [], .str [34]]]], [.int .i64 3, .sl 3 [[.bool false, .str [], .str [116, 101, 120, 116, 10, 34]], [.bool true, .str [49], .str [97]], [.bool false, .str [], .str [34]]]], [.int .i64 3, .sl 3 [[.bool false, .str [], .str [116, 101, 120, 116, 10, 34]], [.bool true, .str [49], .str [97]], [.bool false, .str [], .str [34]]]], [.int .i64 3, .sl 3 [[.bool false, .str [], .str [116, 101, 120, 116, 10, 34]], [.bool true, .str [49], .str [97]], [.bool false, .str [], .str [34]]]], [.int .i64 3, .sl 3 [[.bool false, .str [], .str [116, 101, 120, 116, 10, 34]], [.bool true, .str [49], .str [97]], [.bool false, .str [], .str [34]]]], [.int .i64 3, .sl 3 [[.bool false, .str [], .str [116, 101, 120, 116, 10, 34]], [.bool true, .str [49], .str [97]], [.bool false, .str [], .str [34]]]], [.int .i64 3, .sl 3 [[.bool false, .str [], .str [116, 101, 120, 116, 10, 34]], [.bool true, .str [49], .str [97]], [.bool false, .str [], .str [34]]]], [.int .i64 3, .sl 3 [[.bool false, .str [], .str [116, 101, 120, 116, 10, 34]], [.bool true, .str [49], .str [97]], [.bool false, .str [], .str [34]]]]]), .d (.sl 10 [[.int .i64 1, .int .i64 0, .int .i64 1, .int .i64 0, .int .i64 1, .int .i64 0, .nil, .str [], .int .i64 0, .bool false], [.int .i64 2, .int .i64 1, .int .i64 1, .int .i64 0, .int .i64 1, .int .i64 0, .nil, .str [], .int .i64 0, .bool false], [.int .i64 3, .int .i64 2, .int .i64 1, .int .i64 0, .int .i64 1, .int .i64 0, .nil, .str [], .int .i64 0, .bool false], [.int .i64 4, .int .i64 3, .int .i64 1, .int .i64 0, .int .i64 1, .int .i64 0, .nil, .str [], .int .i64 0, .bool false], [.int .i64 5, .int .i64 4, .int .i64 1, .int .i64 0, .int .i64 1, .int .i64 0, .nil, .str [], .int .i64 0, .bool false], [.int .i64 6, .int .i64 5, .int .i64 1, .int .i64 0, .int .i64 1, .int .i64 0, .nil, .str [], .int .i64 0, .bool false], [.int .i64 7, .int .i64 6, .int .i64 1, .int .i64 0, .int .i64 1, .int .i64 0, .nil, .str [], .int .i64 0, .bool false], [.int .i64 8, .int .i64 7, .int .i64 1, .int .i64 0, .int .i64 1, .int .i64 0, .nil, .str [], .int .i64 0, .bool false], [.int .i64 9, .int .i64 8, .int .i64 1, .int .i64 0, .int .i64 1, .int .i64 0, .nil, .str [], .int .i64 0, .bool false], [.int .i64 10, .int .i64 9, .int .i64 1, .int .i64 0, .int .i64 1, .int .i64 0, .nil, .str [], .int .i64 0, .bool false], [.int .i64 11, .int .i64 10, .int .i64 1, .int .i64 0, .int .i64 1, .int .i64 0, .nil, .str [], .int .i64 0, .bool false], [.int .i64 12, .int .i64 11, .int .i64 1, .int .i64 0, .int .i64 1, .int .i64 0, .nil, .str [], .int .i64 0, .bool false], [.int .i64 13, .int .i64 12, .int .i64 1, .int .i64 0, .int .i64 1, .int .i64 0, .nil, .str [], .int .i64 0, .bool false], [.int .i64 14, .int .i64 13, .int .i64 1, .int .i64 0, .int .i64 1, .int .i64 0, .nil, .str [], .int .i64 0, .bool false], [.int .i64 15, .int .i64 14, .int .i64 1, .int .i64 0, .int .i64 1, .int .i64 0, .nil, .str [], .int .i64 0, .bool false], [.int .i64 16, .int .i64 15, .int .i64 1, .int .i64 0, .int .i64 1, .int .i64 0, .nil, .str [], .int .i64 0, .bool false]]), .d (.int .i64 17)]), (false, [.d (.int .i64 0)])], boxes := [], frz := [] } }
set_option maxRecDepth 100000 in
theorem K_B16_ok : FactOk prog K_B16 := fact_of (E := E0 (memo [K_V8, K_R1, K_C1] A1)) (E0_ok (memo_ok A1_ok (AllP.mem ⟨K_V8_ok, K_R1_ok, K_C1_ok, trivial⟩))) (n := 30) (by kernel_rfl)
end Go.Proofs.YtmoineigflegeaaGreatDoor.vx
namespace Go.Proofs.YtmoineigflegeaaGreatDoor.vx
open Go Go.Vs Go.Proofs.Tryz
noncomputable def K_B17 : Fact := { f := 7, args := [.one (.d (.sl 2 [[.int .i64 3, .sl 3 [[.bool false, .str [], .str [116, 101, 120, 116, 10, 34]], [.bool true, .str [49], .str [97]], [.bool false, .str [], .str [34]]]], [.int .i64 3, .sl 3 [[.bool false, .str [], .str [116, 101, 120, 116, 10, 34]], [.bool true, .str [49], .str [97]], [.bool false, .str [], .str [34]]]], [.int .i64 3, .sl 3 [[.bool false, .str [], .str [116, 101, 120, 116, 10, 34]], [.bool true, .str [49], .str [97]], [.bool false, .str [], .str [34]]]], [.int .i64 3, .sl 3 [[.bool false, .str [], .str [116, 101, 120, 116, 10, 34]], [.bool true, .str [49], .str [97]], [.bool false, .str [], .str [34]]]], [.int .i64 3, .sl 3 [[.bool false, .str [], .str [116, 101, 120, 116, 10, 34]], [.bool true, .str [49], .str [97]], [.bool false, .str [], .str [34]]]], [.int .i64 3, .sl 3 [[.bool false, .str [], .str [116, 101, 120, 116, 10, 34]], [.bool true, .str [49], .str [97]], [.bool false, .str [], .str [34]]]], [.int .i64 3, .sl 3 [[.bool false, .str [], .str [116, 101, 120, 116, 10, 34]], [.bool true, .str [49], .str [97]], [.bool false, .str [], .str [34]]]], [.int .i64 3, .sl 3 [[.bool false, .str [], .str [116, 101, 120, 116, 10, 34]], [.bool true, .str [49], .str [97]], [.bool false, .str [], .str [34]]]], [.int .i64 3, .sl 3 [[.bool false, .str [], .str [116, 101, 120, 116, 10, 34]], [.bool true, .str [49], .str [97]], [.bool false, .str [], .str [34]]]], [.int .i64 3, .sl 3 [[.bool false, .str [], .str [116, 101, 120, 116, 10, 34]], [.bool true, .str [49], .str [97]], [.bool false, .str [], .str [34]]]], [.int .i64 3, .sl 3 [[.bool false, .str [], .str [116, 101, 120, 116, 10, 34]], [.bool true, .str [49], .str [97]], [.bool false, .str [], .str [34]]]], [.int .i64 3, .sl 3 [[.bool false, .str [], .str [116, 101, 120, 116, 10, 34]], [.bool true, .str [49], .str [97]], [.bool false, .str [], .str [34]]]], [.int .i64 3, .sl 3 [[.bool false, .str [], .str [116, 101, 120, 116, 10, 34]], [.bool true, .str [49], .str [97]], [.bool false, .str [], .str [34]]]], [.int .i64 3, .sl 3 [[.bool false, .str [], .str [116, 101, 120, 116, 10, 34]], [.bool true, .str [49], .str [97]], [.bool false, .str [], .str [34]]]], [.int .i64 3, .sl 3 [[.bool false, .str [], .str [116, 101, 120, 116, 10, 34]], [.bool true, .str [49], .str [97]], [.bool false, .str [], .str [34]]]], [.int .i64 3, .sl 3 [[.bool false, .str [], .str [116, 101, 120, 116, 10, 34]], [.bool true, .str [49], .str [97]], [.bool false, .str [], .str [34]]]], [.int .i64 3, .sl 3 [[.bool false, .str [], .str [116, 101, 120, 116, 10, 34]], [.bool true, .str [49], .str [97]], [.bool false, .str [], .str [34]]]]])), .one (.d .nil)], boxes := [], r := { v := .tup [(true, [.d (.nil), .d (.nil), .d (.int .i64 0)]), (false, [.d (.int .i64 3)])], boxes := [], frz := [] } }
set_option maxRecDepth 100000 in
theorem K_B17_ok : FactOk prog K_B17 := fact_of (E := E0 (memo [K_V8, K_R1, K_C1] A1)) (E0_ok (memo_ok A1_ok (AllP.mem ⟨K_V8_ok, K_R1_ok, K_C1_ok, trivial⟩))) (n := 30) (by kernel_rfl)
end Go.Proofs.YtmoineigflegeaaGreatDoor.vx
namespace Go.Proofs.YtmoineigflegeaaGreatDoor.ve
open Go Go.Vs Go.Ve Go.Fn Go.Proofs.Tryz
set_option linter.unusedVariables false
def S7 : Sig := { args := [.one (.n .data (.pair (.int .i64) (.sl (.pair .bool (.pair .str .str))))), .nls], boxes := [], res := [.row (.pair (.sl (.pair (.int .i64) (.sl (.pair .bool (.pair .str .str))))) (.pair (.sl (.pair (.int .i64) (.pair (.int .i64) (.pair (.int .i64) (.pair (.pair (.int .i64) (.int .i64)) (.pair (.int .i64) (.pair (.sl (.pair (.int .i64) (.pair .str (.int .i64)))) (.pair .str (.pair (.int .i64) .bool))))))))) (.int .i64))), .one (.i .i64)], rbox := [], frz := [] }
noncomputable def C7 : Con := S7.con (by kernel_rfl) (fun x => lim_build x)
set_option maxRecDepth 100000 in
theorem G7 : Good1 prog (7, C7) := by
 refine call_of fun x y h => ?_
 rcases orO_some (h : orO _ _ = some y) with h | h
 ·obtain ⟨rfl, rfl⟩ := oneO_some h
  exact vx.K_B15_ok
 rcases orO_some h with h | h
 ·obtain ⟨rfl, rfl⟩ := oneO_some h
  exact vx.K_B16_ok
 ·obtain ⟨rfl, rfl⟩ := oneO_some h
  exact vx.K_B17_ok
end Go.Proofs.YtmoineigflegeaaGreatDoor.ve
namespace Go.Proofs.YtmoineigflegeaaGreatDoor.vx
open Go Go.Vs Go.Proofs.Tryz
noncomputable def K_W15 : Fact := { f := 9, args := [.agg [.d (.sl 2 [[.int .i64 3, .sl 3 [[.bool false, .str [], .str [116, 101, 120, 116, 10, 34]], [.bool true, .str [49], .str [97]], [.bool false, .str [], .str [34]]]], [.int .i64 3, .sl 3 [[.bool false, .str [], .str [116, 101, 120, 116, 10, 34]], [.bool true, .str [49], .str [97]], [.bool false, .str [], .str [34]]]], [.int .i64 3, .sl 3 [[.bool false, .str [], .str [116, 101, 120, 116, 10, 34]], [.bool true, .str [49], .str [97]], [.bool false, .str [], .str [34]]]], [.int .i64 3, .sl 3 [[.bool false, .str [], .str [116, 101, 120, 116, 10, 34]], [.bool true, .str [49], .str [97]], [.bool false, .str [], .str [34]]]], [.int .i64 3, .sl 3 [[.bool false, .str [], .str [116, 101, 120, 116, 10, 34]], [.bool true, .str [49], .str [97]], [.bool false, .str [], .str [34]]]], [.int .i64 3, .sl 3 [[.bool false, .str [], .str [116, 101, 120, 116, 10, 34]], [.bool true, .str [49], .str [97]], [.bool false, .str [], .str [34]]]], [.int .i64 3, .sl 3 [[.bool false, .str [], .str [116, 101, 120, 116, 10, 34]], [.bool true, .str [49], .str [97]], [.bool false, .str [], .str [34]]]], [.int .i64 3, .sl 3 [[.bool false, .str [], .str [116, 101, 120, 116, 10, 34]], [.bool true, .str [49], .str [97]], [.bool false, .str [], .str [34]]]], [.int .i64 3, .sl 3 [[.bool false, .str [], .str [116, 101, 120, 116, 10, 34]], [.bool true, .str [49], .str [97]], [.bool false, .str [], .str [34]]]], [.int .i64 3, .sl 3 [[.bool false, .str [], .str [116, 101, 120, 116, 10, 34]], [.bool true, .str [49], .str [97]], [.bool false, .str [], .str [34]]]], [.int .i64 3, .sl 3 [[.bool false, .str [], .str [116, 101, 120, 116, 10, 34]], [.bool true, .str [49], .str [97]], [.bool false, .str [], .str [34]]]], [.int .i64 3, .sl 3 [[.bool false, .str [], .str [116, 101, 120, 116, 10, 34]], [.bool true, .str [49], .str [97]], [.bool false, .str [], .str [34]]]], [.int .i64 3, .sl 3 [[.bool false, .str [], .str [116, 101, 120, 116, 10, 34]], [.bool true, .str [49], .str [97]], [.bool false, .str [], .str [34]]]], [.int .i64 3, .sl 3 [[.bool false, .str [], .str [116, 101, 120, 116, 10, 34]], [.bool true, .str [49], .str [97]], [.bool false, .str [], .str [34]]]], [.int .i64 3, .sl 3 [[.bool false, .str [], .str [116, 101, 120, 116, 10, 34]], [.bool true, .str [49], .str [97]], [.bool false, .str [], .str [34]]]]]), .d .nil, .d (.int .i64 1)]], boxes := [], r := { v := .one (.d (.int .i64 0)), boxes := [], frz := [] } }
set_option maxRecDepth 100000 in
theorem K_W15_ok : FactOk prog K_W15 := fact_of (E := E0 (memo [K_V8, K_R1, K_C1] A1)) (E0_ok (memo_ok A1_ok (AllP.mem ⟨K_V8_ok, K_R1_ok, K_C1_ok, trivial⟩))) (n := 30) (by kernel_rfl)
end Go.Proofs.YtmoineigflegeaaGreatDoor.vx
namespace Go.Proofs.YtmoineigflegeaaGreatDoor.vx
open Go Go.Vs Go.Proofs.Tryz
noncomputable def K_W16 : Fact := { f := 9, args := [.agg [.d (.sl 2 [[.int .i64 3, .sl 3 [[.bool false, .str [], .str [116, 101, 120, 116, 10, 34]], [.bool true, .str [49], .str [97]], [.bool false, .str [], .str [34]]]], [.int .i64 3, .sl 3 [[.bool false, .str [], .str [116, 101, 120, 116, 10, 34]], [.bool true, .str [49], .str [97]], [.bool false, .str [], .str [34]]]], [.int .i64 3, .sl 3 [[.bool false, .str [], .str [116, 101, 120, 116, 10, 34]], [.bool true, .str [49], .str [97]], [.bool false, .str [], .str [34]]]], [.int .i64 3, .sl 3 [[.bool false, .str [], .str [116, 101, 120, 116, 10, 34]], [.bool true, .str [49], .str [97]], [.bool false, .str [], .str [34]]]], [.int .i64 3, .sl 3 [[.bool false, .str [], .str [116, 101, 120, 116, 10, 34]], [.bool true, .str [49], .str [97]], [.bool false, .str [], .str [34]]]], [.int .i64 3, .sl 3 [[.bool false, .str [], .str [116, 101, 120, 116, 10, 34]], [.bool true, .str [49], .str [97]], [.bool false, .str [], .str [34]]]], [.int .i64 3, .sl 3 [[.bool false, .str [], .str [116, 101, 120, 116, 10, 34]], [.bool true, .str [49], .str [97]], [.bool false, .str [], .str [34]]]], [.int .i64 3, .sl 3 [[.bool false, .str [], .str [116, 101, 120, 116, 10, 34]], [.bool true, .str [49], .str [97]], [.bool false, .str [], .str [34]]]], [.int .i64 3, .sl 3 [[.bool false, .str [], .str [116, 101, 120, 116, 10, 34]], [.bool true, .str [49], .str [97]], [.bool false, .str [], .str [34]]]], [.int .i64 3, .sl 3 [[.bool false, .str [], .str [116, 101, 120, 116, 10, 34]], [.bool true, .str [49], .str [97]], [.bool false, .str [], .str [34]]]], [.int .i64 3, .sl 3 [[.bool false, .str [], .str [116, 101, 120, 116, 10, 34]], [.bool true, .str [49], .str [97]], [.bool false, .str [], .str [34]]]], [.int .i64 3, .sl 3 [[.bool false, .str [], .str [116, 101, 120, 116, 10, 34]], [.bool true, .str [49], .str [97]], [.bool false, .str [], .str [34]]]], [.int .i64 3, .sl 3 [[.bool false, .str [], .str [116, 101, 120, 116, 10, 34]], [.bool true, .str [49], .str [97]], [.bool false, .str [], .str [34]]]], [.int .i64 3, .sl 3 [[.bool false, .str [], .str [116, 101, 120, 116, 10, 34]], [.bool true, .str [49], .str [97]], [.bool false, .str [], .str [34]]]], [.int .i64 3, .sl 3 [[.bool false, .str [], .str [116, 101, 120, 116, 10, 34]], [.bool true, .str [49], .str [97]], [.bool false, .str [], .str [34]]]], [.int .i64 3, .sl 3 [[.bool false, .str [], .str [116, 101, 120, 116, 10, 34]], [.bool true, .str [49], .str [97]], [.bool false, .str [], .str [34]]]]]), .d .nil, .d (.int .i64 1)]], boxes := [], r := { v := .one (.d (.int .i64 0)), boxes := [], frz := [] } }
set_option maxRecDepth 100000 in
theorem K_W16_ok : FactOk prog K_W16 := fact_of (E := E0 (memo [K_V8, K_R1, K_C1] A1)) (E0_ok (memo_ok A1_ok (AllP.mem ⟨K_V8_ok, K_R1_ok, K_C1_ok, trivial⟩))) (n := 30) (by kernel_rfl)
end Go.Proofs.YtmoineigflegeaaGreatDoor.vx
namespace Go.Proofs.YtmoineigflegeaaGreatDoor.vx
open Go Go.Vs Go.Proofs.Tryz
noncomputable def K_W17 : Fact := { f := 9, args := [.agg [.d (.sl 2 [[.int .i64 3, .sl 3 [[.bool false, .str [], .str [116, 101, 120, 116, 10, 34]], [.bool true, .str [49], .str [97]], [.bool false, .str [], .str [34]]]], [.int .i64 3, .sl 3 [[.bool false, .str [], .str [116, 101, 120, 116, 10, 34]], [.bool true, .str [49], .str [97]], [.bool false, .str [], .str [34]]]], [.int .i64 3, .sl 3 [[.bool false, .str [], .str [116, 101, 120, 116, 10, 34]], [.bool true, .str [49], .str [97]], [.bool false, .str [], .str [34]]]], [.int .i64 3, .sl 3 [[.bool false, .str [], .str [116, 101, 120, 116, 10, 34]], [.bool true, .str [49], .str [97]], [.bool false, .str [], .str [34]]]], [.int .i64 3, .sl 3 [[.bool false, .str [], .str [116, 101, 120, 116, 10, 34]], [.bool true, .str [49], .str [97]], [.bool false, .str [], .str [34]]]], [.int .i64 3, .sl 3 [[.bool false, .str [], .str [116, 101, 120, 116, 10, 34]], [.bool true, .str [49], .str [97]], [.bool false, .str [], .str [34]]]], [.int .i64 3, .sl 3 [[.bool false, .str [], .str [116, 101, 120, 116, 10, 34]], [.bool true, .str [49], .str [97]], [.bool false, .str [], .str [34]]]], [.int .i64 3, .sl 3 [[.bool false, .str [], .str [116, 101, 120, 116, 10, 34]], [.bool true, .str [49], .str [97]], [.bool false, .str [], .str [34]]]], [.int .i64 3, .sl 3 [[.bool false, .str [], .str [116, 101, 120, 116, 10, 34]], [.bool true, .str [49], .str [97]], [.bool false, .str [], .str [34]]]], [.int .i64 3, .sl 3 [[.bool false, .str [], .str [116, 101, 120, 116, 10, 34]], [.bool true, .str [49], .str [97]], [.bool false, .str [], .str [34]]]], [.int .i64 3, .sl 3 [[.bool false, .str [], .str [116, 101, 120, 116, 10, 34]], [.bool true, .str [49], .str [97]], [.bool false, .str [], .str [34]]]], [.int .i64 3, .sl 3 [[.bool false, .str [], .str [116, 101, 120, 116, 10, 34]], [.bool true, .str [49], .str [97]], [.bool false, .str [], .str [34]]]], [.int .i64 3, .sl 3 [[.bool false, .str [], .str [116, 101, 120, 116, 10, 34]], [.bool true, .str [49], .str [97]], [.bool false, .str [], .str [34]]]], [.int .i64 3, .sl 3 [[.bool false, .str [], .str [116, 101, 120, 116, 10, 34]], [.bool true, .str [49], .str [97]], [.bool false, .str [], .str [34]]]], [.int .i64 3, .sl 3 [[.bool false, .str [], .str [116, 101, 120, 116, 10, 34]], [.bool true, .str [49], .str [97]], [.bool false, .str [], .str [34]]]], [.int .i64 3, .sl 3 [[.bool false, .str [], .str [116, 101, 120, 116, 10, 34]], [.bool true, .str [49], .str [97]], [.bool false, .str [], .str [34]]]], [.int .i64 3, .sl 3 [[.bool false, .str [], .str [116, 101, 120, 116, 10, 34]], [.bool true, .str [49], .str [97]], [.bool false, .str [], .str [34]]]]]), .d .nil, .d (.int .i64 1)]], boxes := [], r := { v := .one (.d (.int .i64 3)), boxes := [], frz := [] } }
set_option maxRecDepth 100000 in
theorem K_W17_ok : FactOk prog K_W17 := fact_of (E := E0 (memo [K_V8, K_R1, K_C1] A1)) (E0_ok (memo_ok A1_ok (AllP.mem ⟨K_V8_ok, K_R1_ok, K_C1_ok, trivial⟩))) (n := 30) (by kernel_rfl)
end Go.Proofs.YtmoineigflegeaaGreatDoor.vx
namespace Go.Proofs.YtmoineigflegeaaGreatDoor.ve
open Go Go.Vs Go.Ve Go.Fn Go.Proofs.Tryz
set_option linter.unusedVariables false
def S9 : Sig := { args := [.row (.pair (.sl (.pair (.int .i64) (.sl (.pair .bool (.pair .str .str))))) (.pair (.sl (.pair (.int .i64) (.pair (.int .i64) (.pair (.int .i64) (.pair (.pair (.int .i64) (.int .i64)) (.pair (.int .i64) (.pair (.sl (.pair (.int .i64) (.pair .str (.int .i64)))) (.pair .str (.pair (.int .i64) .bool))))))))) (.int .i64)))], boxes := [], res := [.one (.i .i64)], rbox := [], frz := [] }
noncomputable def C9 : Con := S9.con (by kernel_rfl) (fun x => lim_validate x)
set_option maxRecDepth 100000 in
theorem G9 : Good1 prog (9, C9) := by
 refine call_of fun x y h => ?_
 rcases orO_some (h : orO _ _ = some y) with h | h
 ·obtain ⟨rfl, rfl⟩ := oneO_some h
  exact vx.K_W15_ok
 rcases orO_some h with h | h
 ·obtain ⟨rfl, rfl⟩ := oneO_some h
  exact vx.K_W16_ok
 ·obtain ⟨rfl, rfl⟩ := oneO_some h
  exact vx.K_W17_ok
end Go.Proofs.YtmoineigflegeaaGreatDoor.ve
namespace Go.Proofs.YtmoineigflegeaaGreatDoor.vx
open Go Go.Vs Go.Proofs.Tryz
noncomputable def K_PK : Fact := { f := 6, args := [.one (.d (.int .i64 3)), .one (.d (.str [116, 101, 120, 116, 10, 34, 79, 110, 101, 46, 32, 84, 119, 111, 46, 34]))], boxes := [], r := { v := .tup [(true, [.d (.int .i64 3), .d (.sl 3 [[.bool false, .str [], .str [116, 101, 120, 116, 10, 34]], [.bool true, .str [49], .str [79, 110, 101, 46, 32, 84, 119, 111, 46]], [.bool false, .str [], .str [34]]])]), (false, [.d (.int .i64 0)]), (false, [.d (.int .i64 0)])], boxes := [], frz := [] } }
set_option maxRecDepth 100000 in
theorem K_PK_ok : FactOk prog K_PK := fact_of (E := E0 A1) (E0_ok A1_ok) (n := 30) (by kernel_rfl)
end Go.Proofs.YtmoineigflegeaaGreatDoor.vx
namespace Go.Proofs.YtmoineigflegeaaGreatDoor.vx
open Go Go.Vs Go.Proofs.Tryz
noncomputable def K_SK : Fact := { f := 19, args := [], boxes := [], r := { v := .one (.own 3 [[.bool true, .sl 34 [[.int .u8 0, .int .u8 0, .int .u8 0, .int .u8 0, .int .u8 2, .int .u8 64, .int .u8 0, .int .u8 0, .int .u8 0, .int .u8 0, .int .u8 0, .int .u8 0, .int .u8 0, .int .u8 0, .int .u8 0, .int .u8 0, .int .u8 0, .int .u8 0, .int .u8 0, .int .u8 0, .int .u8 0, .int .u8 0, .int .u8 0, .int .u8 0, .int .u8 0, .int .u8 0, .int .u8 0, .int .u8 0, .int .u8 0, .int .u8 0, .int .u8 0, .int .u8 0, .int .i64 1, .bool false]], .sl 34 [[.int .u8 0, .int .u8 0, .int .u8 0, .int .u8 0, .int .u8 1, .int .u8 0, .int .u8 0, .int .u8 0, .int .u8 0, .int .u8 0, .int .u8 0, .int .u8 0, .int .u8 0, .int .u8 0, .int .u8 0, .int .u8 0, .int .u8 0, .int .u8 0, .int .u8 0, .int .u8 0, .int .u8 0, .int .u8 0, .int .u8 0, .int .u8 0, .int .u8 0, .int .u8 0, .int .u8 0, .int .u8 0, .int .u8 0, .int .u8 0, .int .u8 0, .int .u8 0, .int .i64 1, .bool false]]]]), boxes := [], frz := [] } }
set_option maxRecDepth 100000 in
theorem K_SK_ok : FactOk prog K_SK := fact_of (E := E0 A1) (E0_ok A1_ok) (n := 30) (by kernel_rfl)
end Go.Proofs.YtmoineigflegeaaGreatDoor.vx
namespace Go.Proofs.YtmoineigflegeaaGreatDoor.vx
open Go Go.Vs Go.Proofs.Tryz
noncomputable def K_VK : Fact := { f := 13, args := [.agg [.d (.int .i64 3), .d (.sl 3 [[.bool false, .str [], .str [116, 101, 120, 116, 10, 34]], [.bool true, .str [49], .str [79, 110, 101, 46, 32, 84, 119, 111, 46]], [.bool false, .str [], .str [34]]])]], boxes := [], r := { v := .one (.d (.int .i64 0)), boxes := [], frz := [] } }
set_option maxRecDepth 100000 in
theorem K_VK_ok : FactOk prog K_VK := fact_of (E := E0 A1) (E0_ok A1_ok) (n := 30) (by kernel_rfl)
end Go.Proofs.YtmoineigflegeaaGreatDoor.vx
namespace Go.Proofs.YtmoineigflegeaaGreatDoor.vx
open Go Go.Vs Go.Proofs.Tryz
noncomputable def K_CK : Fact := { f := 15, args := [.agg [.d (.int .i64 3), .d (.sl 3 [[.bool false, .str [], .str [116, 101, 120, 116, 10, 34]], [.bool true, .str [49], .str [79, 110, 101, 46, 32, 84, 119, 111, 46]], [.bool false, .str [], .str [34]]])]], boxes := [], r := { v := .one (.own 4295098370 [[.int .i64 1, .sl 3 [[.int .i64 1, .str [79, 110, 101, 46, 32, 84, 119, 111, 46], .int .i64 0]]]]), boxes := [], frz := [] } }
set_option maxRecDepth 100000 in
theorem K_CK_ok : FactOk prog K_CK := fact_of (E := E0 A1) (E0_ok A1_ok) (n := 30) (by kernel_rfl)
end Go.Proofs.YtmoineigflegeaaGreatDoor.vx
namespace Go.Proofs.YtmoineigflegeaaGreatDoor.vx
open Go Go.Vs Go.Proofs.Tryz
noncomputable def K_RK : Fact := { f := 17, args := [.one (.d (.sl 3 [[.bool true, .sl 34 [[.int .u8 0, .int .u8 0, .int .u8 0, .int .u8 0, .int .u8 2, .int .u8 64, .int .u8 0, .int .u8 0, .int .u8 0, .int .u8 0, .int .u8 0, .int .u8 0, .int .u8 0, .int .u8 0, .int .u8 0, .int .u8 0, .int .u8 0, .int .u8 0, .int .u8 0, .int .u8 0, .int .u8 0, .int .u8 0, .int .u8 0, .int .u8 0, .int .u8 0, .int .u8 0, .int .u8 0, .int .u8 0, .int .u8 0, .int .u8 0, .int .u8 0, .int .u8 0, .int .i64 1, .bool false]], .sl 34 [[.int .u8 0, .int .u8 0, .int .u8 0, .int .u8 0, .int .u8 1, .int .u8 0, .int .u8 0, .int .u8 0, .int .u8 0, .int .u8 0, .int .u8 0, .int .u8 0, .int .u8 0, .int .u8 0, .int .u8 0, .int .u8 0, .int .u8 0, .int .u8 0, .int .u8 0, .int .u8 0, .int .u8 0, .int .u8 0, .int .u8 0, .int .u8 0, .int .u8 0, .int .u8 0, .int .u8 0, .int .u8 0, .int .u8 0, .int .u8 0, .int .u8 0, .int .u8 0, .int .i64 1, .bool false]]]])), .one (.d (.sl 3 [[.int .i64 1, .str [79, 110, 101, 46, 32, 84, 119, 111, 46], .int .i64 0]]))], boxes := [], r := { v := .one (.own 2 [[.int .i64 0, .int .i64 4], [.int .i64 5, .int .i64 9]]), boxes := [], frz := [] } }
set_option maxRecDepth 100000 in
theorem K_RK_ok : FactOk prog K_RK := fact_of (E := E0 A1) (E0_ok A1_ok) (n := 30) (by kernel_rfl)
end Go.Proofs.YtmoineigflegeaaGreatDoor.vx
namespace Go.Proofs.YtmoineigflegeaaGreatDoor.vx
open Go Go.Vs Go.Proofs.Tryz
noncomputable def K_BK : Fact := { f := 7, args := [.one (.d (.sl 2 [[.int .i64 3, .sl 3 [[.bool false, .str [], .str [116, 101, 120, 116, 10, 34]], [.bool true, .str [49], .str [79, 110, 101, 46, 32, 84, 119, 111, 46]], [.bool false, .str [], .str [34]]]]])), .one (.d (.sl 3 [[.bool true, .sl 34 [[.int .u8 0, .int .u8 0, .int .u8 0, .int .u8 0, .int .u8 2, .int .u8 64, .int .u8 0, .int .u8 0, .int .u8 0, .int .u8 0, .int .u8 0, .int .u8 0, .int .u8 0, .int .u8 0, .int .u8 0, .int .u8 0, .int .u8 0, .int .u8 0, .int .u8 0, .int .u8 0, .int .u8 0, .int .u8 0, .int .u8 0, .int .u8 0, .int .u8 0, .int .u8 0, .int .u8 0, .int .u8 0, .int .u8 0, .int .u8 0, .int .u8 0, .int .u8 0, .int .i64 1, .bool false]], .sl 34 [[.int .u8 0, .int .u8 0, .int .u8 0, .int .u8 0, .int .u8 1, .int .u8 0, .int .u8 0, .int .u8 0, .int .u8 0, .int .u8 0, .int .u8 0, .int .u8 0, .int .u8 0, .int .u8 0, .int .u8 0, .int .u8 0, .int .u8 0, .int .u8 0, .int .u8 0, .int .u8 0, .int .u8 0, .int .u8 0, .int .u8 0, .int .u8 0, .int .u8 0, .int .u8 0, .int .u8 0, .int .u8 0, .int .u8 0, .int .u8 0, .int .u8 0, .int .u8 0, .int .i64 1, .bool false]]]]))], boxes := [], r := { v := .tup [(true, [.d (.sl 2 [[.int .i64 3, .sl 3 [[.bool false, .str [], .str [116, 101, 120, 116, 10, 34]], [.bool true, .str [49], .str [79, 110, 101, 46, 32, 84, 119, 111, 46]], [.bool false, .str [], .str [34]]]]]), .d (.sl 10 [[.int .i64 1, .int .i64 0, .int .i64 1, .int .i64 0, .int .i64 4, .int .i64 0, .nil, .str [], .int .i64 0, .bool false], [.int .i64 2, .int .i64 0, .int .i64 1, .int .i64 5, .int .i64 9, .int .i64 0, .nil, .str [], .int .i64 0, .bool false]]), .d (.int .i64 3)]), (false, [.d (.int .i64 0)])], boxes := [], frz := [] } }
set_option maxRecDepth 100000 in
theorem K_BK_ok : FactOk prog K_BK := fact_of (E := E0 (memo [K_VK, K_CK, K_RK] A1)) (E0_ok (memo_ok A1_ok (AllP.mem ⟨K_VK_ok, K_CK_ok, K_RK_ok, trivial⟩))) (n := 30) (by kernel_rfl)
end Go.Proofs.YtmoineigflegeaaGreatDoor.vx
namespace Go.Proofs.YtmoineigflegeaaGreatDoor.vx
open Go Go.Vs Go.Proofs.Tryz
noncomputable def K_OK : Fact := { f := 18, args := [.agg [.d (.sl 2 [[.int .i64 3, .sl 3 [[.bool false, .str [], .str [116, 101, 120, 116, 10, 34]], [.bool true, .str [49], .str [79, 110, 101, 46, 32, 84, 119, 111, 46]], [.bool false, .str [], .str [34]]]]]), .d (.sl 10 [[.int .i64 1, .int .i64 0, .int .i64 1, .int .i64 0, .int .i64 4, .int .i64 0, .nil, .str [], .int .i64 0, .bool false], [.int .i64 2, .int .i64 0, .int .i64 1, .int .i64 5, .int .i64 9, .int .i64 0, .nil, .str [], .int .i64 0, .bool false]]), .d (.int .i64 3)]], boxes := [], r := { v := .tup [(false, [.ptr (.inb 0) 0]), (false, [.d (.int .i64 0)])], boxes := [[.d (.sl 2 [[.int .i64 3, .sl 3 [[.bool false, .str [], .str [116, 101, 120, 116, 10, 34]], [.bool true, .str [49], .str [79, 110, 101, 46, 32, 84, 119, 111, 46]], [.bool false, .str [], .str [34]]]]]), .d (.sl 10 [[.int .i64 1, .int .i64 0, .int .i64 1, .int .i64 0, .int .i64 4, .int .i64 0, .nil, .str [], .int .i64 0, .bool false], [.int .i64 2, .int .i64 0, .int .i64 1, .int .i64 5, .int .i64 9, .int .i64 0, .nil, .str [], .int .i64 0, .bool false]]), .d (.int .i64 3), .own 4295294978 [[.int .i64 0, .int .i64 1, .sl 3 [[.int .i64 1, .str [79, 110, 101, 46, 32, 84, 119, 111, 46], .int .i64 0]]]]]], frz := [] } }
set_option maxRecDepth 100000 in
theorem K_OK_ok : FactOk prog K_OK := fact_of (E := E0 (memo [K_VK, K_CK] A1)) (E0_ok (memo_ok A1_ok (AllP.mem ⟨K_VK_ok, K_CK_ok, trivial⟩))) (n := 30) (by kernel_rfl)
end Go.Proofs.YtmoineigflegeaaGreatDoor.vx
namespace Go.Proofs.YtmoineigflegeaaGreatDoor.vx
open Go Go.Vs Go.Proofs.Tryz
noncomputable def K_K1 : Fact := { f := 21, args := [.agg [.d (.sl 2 [[.int .i64 3, .sl 3 [[.bool false, .str [], .str [116, 101, 120, 116, 10, 34]], [.bool true, .str [49], .str [79, 110, 101, 46, 32, 84, 119, 111, 46]], [.bool false, .str [], .str [34]]]]]), .d (.sl 10 [[.int .i64 1, .int .i64 0, .int .i64 1, .int .i64 0, .int .i64 4, .int .i64 0, .nil, .str [], .int .i64 0, .bool false], [.int .i64 2, .int .i64 0, .int .i64 1, .int .i64 5, .int .i64 9, .int .i64 0, .nil, .str [], .int .i64 0, .bool false]]), .d (.int .i64 3)], .one (.d (.int .i64 1))], boxes := [], r := { v := .one (.d (.str [79, 110, 101, 46])), boxes := [], frz := [] } }
set_option maxRecDepth 100000 in
theorem K_K1_ok : FactOk prog K_K1 := fact_of (E := E0 (memo [K_OK] A1)) (E0_ok (memo_ok A1_ok (AllP.mem ⟨K_OK_ok, trivial⟩))) (n := 30) (by kernel_rfl)
end Go.Proofs.YtmoineigflegeaaGreatDoor.vx
namespace Go.Proofs.YtmoineigflegeaaGreatDoor.vx
open Go Go.Vs Go.Proofs.Tryz
noncomputable def K_K2 : Fact := { f := 21, args := [.agg [.d (.sl 2 [[.int .i64 3, .sl 3 [[.bool false, .str [], .str [116, 101, 120, 116, 10, 34]], [.bool true, .str [49], .str [79, 110, 101, 46, 32, 84, 119, 111, 46]], [.bool false, .str [], .str [34]]]]]), .d (.sl 10 [[.int .i64 1, .int .i64 0, .int .i64 1, .int .i64 0, .int .i64 4, .int .i64 0, .nil, .str [], .int .i64 0, .bool false], [.int .i64 2, .int .i64 0, .int .i64 1, .int .i64 5, .int .i64 9, .int .i64 0, .nil, .str [], .int .i64 0, .bool false]]), .d (.int .i64 3)], .one (.d (.int .i64 2))], boxes := [], r := { v := .one (.d (.str [84, 119, 111, 46])), boxes := [], frz := [] } }
set_option maxRecDepth 100000 in
theorem K_K2_ok : FactOk prog K_K2 := fact_of (E := E0 (memo [K_OK] A1)) (E0_ok (memo_ok A1_ok (AllP.mem ⟨K_OK_ok, trivial⟩))) (n := 30) (by kernel_rfl)
end Go.Proofs.YtmoineigflegeaaGreatDoor.vx
namespace Go.Proofs.YtmoineigflegeaaGreatDoor.vx
open Go Go.Vs Go.Proofs.Tryz
noncomputable def K_F2 : Fact := { f := 22, args := [.agg [.d (.sl 2 [[.int .i64 3, .sl 3 [[.bool false, .str [], .str [116, 101, 120, 116, 10, 34]], [.bool true, .str [49], .str [79, 110, 101, 46, 32, 84, 119, 111, 46]], [.bool false, .str [], .str [34]]]]]), .d (.sl 10 [[.int .i64 1, .int .i64 0, .int .i64 1, .int .i64 0, .int .i64 4, .int .i64 0, .nil, .str [], .int .i64 0, .bool false], [.int .i64 2, .int .i64 0, .int .i64 1, .int .i64 5, .int .i64 9, .int .i64 0, .nil, .str [], .int .i64 0, .bool false]]), .d (.int .i64 3)], .one (.d (.int .i64 2))], boxes := [], r := { v := .one (.d (.int .i64 1)), boxes := [], frz := [] } }
set_option maxRecDepth 100000 in
theorem K_F2_ok : FactOk prog K_F2 := fact_of (E := E0 (memo [K_OK] A1)) (E0_ok (memo_ok A1_ok (AllP.mem ⟨K_OK_ok, trivial⟩))) (n := 30) (by kernel_rfl)
end Go.Proofs.YtmoineigflegeaaGreatDoor.vx
namespace Go.Proofs.YtmoineigflegeaaGreatDoor.vx
open Go Go.Vs Go.Proofs.Tryz
noncomputable def K_F3 : Fact := { f := 22, args := [.agg [.d (.sl 2 [[.int .i64 3, .sl 3 [[.bool false, .str [], .str [116, 101, 120, 116, 10, 34]], [.bool true, .str [49], .str [79, 110, 101, 46, 32, 84, 119, 111, 46]], [.bool false, .str [], .str [34]]]]]), .d (.sl 10 [[.int .i64 1, .int .i64 0, .int .i64 1, .int .i64 0, .int .i64 4, .int .i64 0, .nil, .str [], .int .i64 0, .bool false], [.int .i64 2, .int .i64 0, .int .i64 1, .int .i64 5, .int .i64 9, .int .i64 0, .nil, .str [], .int .i64 0, .bool false]]), .d (.int .i64 3)], .one (.d (.int .i64 3))], boxes := [], r := { v := .one (.d (.int .i64 (-1))), boxes := [], frz := [] } }
set_option maxRecDepth 100000 in
theorem K_F3_ok : FactOk prog K_F3 := fact_of (E := E0 (memo [K_OK] A1)) (E0_ok (memo_ok A1_ok (AllP.mem ⟨K_OK_ok, trivial⟩))) (n := 30) (by kernel_rfl)
end Go.Proofs.YtmoineigflegeaaGreatDoor.vx
namespace Go.Proofs.YtmoineigflegeaaGreatDoor.vx
open Go Go.Vs Go.Proofs.Tryz
noncomputable def K_X2 : Fact := { f := 20, args := [.agg [.d (.sl 2 [[.int .i64 3, .sl 3 [[.bool false, .str [], .str [116, 101, 120, 116, 10, 34]], [.bool true, .str [49], .str [79, 110, 101, 46, 32, 84, 119, 111, 46]], [.bool false, .str [], .str [34]]]]]), .d (.sl 10 [[.int .i64 1, .int .i64 0, .int .i64 1, .int .i64 0, .int .i64 4, .int .i64 0, .nil, .str [], .int .i64 0, .bool false], [.int .i64 2, .int .i64 0, .int .i64 1, .int .i64 5, .int .i64 9, .int .i64 0, .nil, .str [], .int .i64 0, .bool false]]), .d (.int .i64 3)], .one (.d (.int .i64 2))], boxes := [], r := { v := .tup [(false, [.d (.str [79, 110, 101, 46])]), (false, [.d (.str [])])], boxes := [], frz := [] } }
set_option maxRecDepth 100000 in
theorem K_X2_ok : FactOk prog K_X2 := fact_of (E := E0 (memo [K_OK] A1)) (E0_ok (memo_ok A1_ok (AllP.mem ⟨K_OK_ok, trivial⟩))) (n := 30) (by kernel_rfl)
end Go.Proofs.YtmoineigflegeaaGreatDoor.vx
namespace Go.Proofs.YtmoineigflegeaaGreatDoor.vx
open Go Go.Vs Go.Proofs.Tryz
noncomputable def K_KN : Fact := { f := 10, args := [], boxes := [], r := { v := .one (.d (.bool true)), boxes := [], frz := [] } }
set_option maxRecDepth 100000 in
theorem K_KN_ok : FactOk prog K_KN := fact_of (E := E0 (memo [K_PK, K_SK, K_BK, K_K1, K_K2, K_F2, K_F3, K_X2] A1)) (E0_ok (memo_ok A1_ok (AllP.mem ⟨K_PK_ok, K_SK_ok, K_BK_ok, K_K1_ok, K_K2_ok, K_F2_ok, K_F3_ok, K_X2_ok, trivial⟩))) (n := 30) (by kernel_rfl)
end Go.Proofs.YtmoineigflegeaaGreatDoor.vx
namespace Go.Proofs.YtmoineigflegeaaGreatDoor.ve
open Go Go.Vs Go.Ve Go.Fn Go.Proofs.Tryz
set_option linter.unusedVariables false
def S10 : Sig := { args := [], boxes := [], res := [.one .b], rbox := [], frz := [] }
noncomputable def C10 : Con := S10.con (by kernel_rfl) (fun _ => lim_known)
set_option maxRecDepth 100000 in
theorem G10 : Good1 prog (10, C10) := by
 refine call_of fun x y h => ?_
 cases h
 exact vx.K_KN_ok
end Go.Proofs.YtmoineigflegeaaGreatDoor.ve
namespace Go.Proofs.YtmoineigflegeaaGreatDoor.ve
open Go Go.Vs Go.Ve Go.Fn Go.Proofs.Tryz
set_option linter.unusedVariables false
noncomputable def F4 : VFE := { cfg := { N := 61, T := T, R := R, con := fun _ f => lkF f [(6, C6), (5, C5), (7, C7), (9, C9), (10, C10)], var := [0, 1, 2, 3, 4, 5, 6, 7, 8, 9, 10], res := [2], eqs := EQ, dat := [1, 2, 3, 4, 5, 6, 7, 8, 9, 10] }, keys := [0, 2, 3, 4, 7, 8, 9, 10, 21, 35], bkeys := [.loc 4, .loc 8] }
noncomputable def S4 : Sig := { args := [.one (.i .i64)], boxes := [], res := [.one .b], rbox := [], frz := [] }
noncomputable def L4 : Nat → Option LoopRec := fun n => match n with
 | 0 => some { head := { live := [3, 4, 7], lbox := [(.loc 4)], vs := [.slot 3 (.n .own (.pair (.int .i64) (.sl (.pair .bool (.pair .str .str))))), .slot 7 (.i .i64)] }, exits := [(.exit 0, { live := [3], lbox := [], vs := [.slot 3 (.n .own (.pair (.int .i64) (.sl (.pair .bool (.pair .str .str)))))] })] }
 | _ => none
set_option maxRecDepth 100000 in
theorem run4 : ∀ x, gives F4 L4 f4 S4 x = (fun x => bitextlaw26_ProjectLimits x) x := by
 intro x
 kernel_rfl
theorem fn4 : FnCalls prog 4 (S4.F (fun x => bitextlaw26_ProjectLimits x)) := fn_sig (F := F4) (tbl := L4) func4 (by kernel_rfl) mix (cok_list (l := [(6, C6), (5, C5), (7, C7), (9, C9), (10, C10)]) (tabsT rfl rfl) rfl (List.forall_mem_cons.2 ⟨G6, List.forall_mem_cons.2 ⟨G5, List.forall_mem_cons.2 ⟨G7, List.forall_mem_cons.2 ⟨G9, List.forall_mem_cons.2 ⟨G10, by simp⟩⟩⟩⟩⟩)) (by kernel_rfl) (by kernel_rfl) (by decide) (fun _ => by kernel_rfl) run4
noncomputable def C4 : Con := S4.con (by kernel_rfl) (fun x => bitextlaw26_ProjectLimits x)
theorem G4 : Good1 prog (4, C4) := good_of func4 (by kernel_rfl) (by kernel_rfl) fn4
end Go.Proofs.YtmoineigflegeaaGreatDoor.ve
namespace Go.Proofs.YtmoineigflegeaaGreatDoor.projectLimits
open Go Go.ChangeShapes Go.WideShapes Go.ChangeAt Go.RowKit Go.Vs Go.Ve Go.Fn Go.Proofs.YtmoineigflegeaaGreatDoor.ve
set_option linter.unusedVariables false
theorem own : ownKnob Tryz.prog.godebug = none := by kernel_rfl
def B (H : Type) : Bulk H where
 one := Rows.uptoBulk
 all := Rows.uptoBulkAll
 str := fun _ => by simp only [Rows.uptoBulk]
 slice := fun _ _ => by simp only [Rows.uptoBulk]
 agg := fun _ => by simp only [Rows.uptoBulk]
 pos := fun d => by
  cases d with
  | lit l => cases l <;> simp only [Rows.uptoBulk] <;> omega
  | _ => simp only [Rows.uptoBulk] <;> omega
 nil := by simp only [Rows.uptoBulkAll]
 cons := fun _ _ => by simp only [Rows.uptoBulkAll]
set_option maxRecDepth 100000 in
theorem contract (H : Type) (enc : TypeId × Value → H) (W : World) (base : Nat) (args : Array Value) (ds gs : List (DataW H)) (before : List MemPlace)
  (hval : ∀ (j : Nat) t v, Tryz.f4.params[j]? = some t → args[j]? = some v → Value.okWide Tryz.prog W .any base t v)
  (hW : DataW.Whole enc Tryz.prog Tryz.f4.params.toList Rows.projectLimitsSpec.vars false W args.toList ds gs before) (hk : Rows.uptoSmall H (ds ++ gs) = true) :
  Calls Tryz.prog 4 args W fun e W' => ∃ v, e = .returned v ∧ Rows.projectLimitsSpec.post enc Tryz.prog Tryz.f4 false true false false W args v W' :=
 law_typed (cfg := F4.cfg.c) (l := S4.args) (n := 20) (m := 1048576) (ts := Tryz.f4.params.toList) (sp := Rows.projectLimitsSpec) (by kernel_rfl) fn4 (tabsT rfl rfl) rfl rfl (tb := 4) (by kernel_rfl) (by kernel_rfl)
  (by kernel_rfl) (by
   intro t ht
   exact List.all_eq_true.1 (by kernel_rfl : Tryz.f4.params.toList.all (fun t => plainT F4.cfg.c 20 t) = true) t ht) (by kernel_rfl)
  (by
   intro t ht
   have := List.all_eq_true.1 (by kernel_rfl : Tryz.f4.params.toList.all (fun t => Tryz.prog.readableRec t && Nat.blt t Tryz.prog.types.size) = true) t ht
   rw [Bool.and_eq_true, Nat.blt_eq] at this
   exact this) (B H) (Nat.le_trans (bulk_append (B H) ds gs) (of_decide_eq_true hk))
  (fun x hw hb => ⟨x, rfl, limits26_holds hw.1⟩)
  (fun ds h => by
   match ds, h with
   | [d1], _ => rfl)
  hval hW
def flat1 : DataW Unit → List Value
 | .lit l => [l.value]
 | .agg ps => ps.flatMap fun d => match d with
  | .lit l => [l.value]
  | _ => []
 | _ => []
def flatW : DataW Unit → List Value
 | .agg ps => ps.flatMap flat1
 | _ => []
def setCells (cs : List Value) : Obj → Obj
 | .cells _ t frozen => .cells cs.toArray t frozen
 | o => o
noncomputable def laidWorld (os : Os) : World := { World.holding Tryz.prog os ⟨#[], #[], []⟩ with heap := ((((((World.holding Tryz.prog os ⟨#[], #[], []⟩).heap.modify 4 (setCells (flatW Rows.laid_math_bits_deBruijn32tab))).modify 5 (setCells (flatW Rows.laid_math_bits_deBruijn64tab))).modify 1 (setCells (flatW Rows.laid_internal_strconv_uint64pow10))).modify 3 (setCells (flatW Rows.laid_unicode_utf8_acceptRanges))).modify 2 (setCells (flatW Rows.laid_unicode_utf8_first))) }
theorem laid_met (os : Os) : laidMet Tryz.prog Rows.projectLimitsUptoRow.laid ((laidWorld os).forCall (fun _ _ => 0) ⟨#[], #[.int .i64 0], []⟩).memory :=
 laidMet_of_run' 300 (by kernel_rfl) (by kernel_rfl)
theorem reads (os : Os) {H : Type} (enc : TypeId × Value → H) : ∃ places, DataW.whole enc Tryz.prog ((laidWorld os).forCall (fun _ _ => 0) ⟨#[], #[.int .i64 0], []⟩).memory Tryz.f4.params.toList Rows.projectLimitsSpec.vars false (#[.int .i64 0] : Array Value).toList 8 = some ([.lit (.int .i64 0)], [], places) :=
 ⟨[], by kernel_rfl⟩
set_option maxRecDepth 100000 in
theorem lifted (os : Os) (started : os.Started) (H : Type) (enc : TypeId × Value → H) (F : Stop.Interp) :
  ReturnsInHanded {} Tryz.checked os 4 .any ((Rows.OpenSpec.upto Rows.projectLimitsSpec).preRow enc Tryz.prog Tryz.f4 Rows.projectLimitsUptoRow.domain false Rows.projectLimitsUptoRow.laid) (((Rows.OpenSpec.upto Rows.projectLimitsSpec).at F).post enc Tryz.prog Tryz.f4 false true false false) := by
 obtain ⟨places, hx⟩ := reads os enc
 refine returnsInHanded_of_row (C := Tryz.checked) (s := Rows.OpenSpec.upto Rows.projectLimitsSpec) own started (by kernel_rfl) Tryz.func4
  (witness_row_at (enc := enc) (C := Tryz.checked) false (laidWorld os) #[.int .i64 0] rfl (by kernel_rfl) (by kernel_rfl) (by kernel_rfl)
   (OpenSpec.preRow_of_cond 8 hx (by kernel_rfl) (fun k hk => by cases hk; kernel_rfl) (by kernel_rfl) (laid_met os))) ?_
 intro W base args ds gs before hval hW _ hcond _ hL _ _
 exact contract H enc W base args ds gs before hval hW (hcond _ rfl)
theorem over : Rows.projectLimitsUptoRow.holds Tryz.pinned (Rows.OpenSpec.upto Rows.projectLimitsSpec) :=
 OpenClaim.holds_of_cond 4 Tryz.f4 rfl rfl rfl rfl rfl rfl rfl ⟨rfl, rfl, rfl, rfl, rfl⟩ rfl rfl rfl rfl rfl h1 Tryz.func4 closed h2 h3
  (fun os started H enc _ F => by rw [OpenClaim.pre_eq_preRow]; exact lifted os started H enc F)
theorem plain (f : FuncId) (fn : Func) (hf : Tryz.pinned.checked.prog.funcNamed "bitext/bitextlaw26.ProjectLimits" = some f) (hfn : Tryz.pinned.checked.prog.funcs[f]? = some fn) :
  true = Tryz.pinned.checked.prog.looks [] ∧ ∀ (j : Nat) t, fn.params[j]? = some t → Tryz.pinned.checked.prog.wantsStandIn t = false := by
 obtain rfl : f = 4 := Option.some.inj ((show Tryz.prog.funcNamed "bitext/bitextlaw26.ProjectLimits" = some 4 from h1).symm.trans hf) |>.symm
 obtain rfl : fn = Tryz.f4 := (Option.some.inj (Tryz.func4.symm.trans hfn)).symm
 refine ⟨by kernel_rfl, fun j t ht => ?_⟩
 have hm : t ∈ Tryz.f4.params.toList := Array.mem_toList_iff.2 (Array.mem_of_getElem? ht)
 have := List.all_eq_true.1 (by kernel_rfl : Tryz.f4.params.toList.all (fun t => !Tryz.prog.wantsStandIn t) = true) t hm
 show Tryz.prog.wantsStandIn t = false
 simpa using this
theorem proved : Rows.ProjectLimitsUptoCardSaid :=
 Claim7.holds_tied_plain_at .later [] _ _ _ _ over (fun _ h => by cases h) (by kernel_rfl) (fun _ h => by cases h) projectLimitsUpto_row_tie rfl ⟨rfl, rfl⟩ (by kernel_rfl) rfl plain (by kernel_rfl)
end Go.Proofs.YtmoineigflegeaaGreatDoor.projectLimits
#print axioms Go.Proofs.YtmoineigflegeaaGreatDoor.projectLimits.proved
