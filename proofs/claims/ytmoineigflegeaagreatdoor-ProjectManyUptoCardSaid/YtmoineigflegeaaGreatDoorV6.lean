/- The statement ProjectManyUptoCardSaid of the given program is proved here: for every input whose bulk is at most the bound of its row, the law returns true and changes nothing. Part 6 of 6. -/
import Derived.Test.YtmoineigflegeaaGreatDoorCards
import Derived.JoinedCond
import Derived.KernelRfl
import Derived.Test.YtmoineigflegeaaGreatDoorProg
import Derived.Shelf.Strings.Builder1
import Derived.WalkKit
import Derived.BigCall
import Derived.Lib.Bytealg
import Derived.Laws.Externs
import Derived.Shelf.LaysM
import Derived.Shelf.Strconv.Itoa3
import Derived.Test.YtmoineigflegeaaGreatDoorTie
import Derived.Deep.DeepHandedRow
import Derived.MakeChecks
import Derived.Test.YtmoineigflegeaaGreatDoorV5
set_option linter.unusedVariables false
set_option linter.unusedSimpArgs false
set_option linter.unusedSectionVars false
namespace Go.Proofs.YtmoineigflegeaaGreatDoor.projectMany
open Go
set_option maxRecDepth 100000
theorem dQ {a b:Bool} (h1:a=true) (h2:b=true):(a&&b)=true:=by rw[h1,h2];rfl
theorem k1:(Rows.projectManyUptoRow.wf (OpenSpec.ofChange ((Rows.OpenSpec.upto Rows.projectManySpec).bare)))=true:=by kernel_rfl
theorem k2:(laidOutB Tryz.prog)=true:=by kernel_rfl
theorem k3:(mapsRowed Tryz.prog)=true:=by kernel_rfl
theorem k4:(Tryz.f3.params.all (Tryz.prog.readableRec ·))=true:=by kernel_rfl
theorem k5:(namedTie Tryz.prog Rows.projectManyUptoRow.named ((Rows.OpenSpec.upto Rows.projectManySpec).bare).vars)=true:=by kernel_rfl
theorem k6:((Rows.projectManyUptoRow.stops==[]))=true:=by kernel_rfl
theorem k7:((Tryz.prog.stops==[]))=true:=by kernel_rfl
theorem k8:((Rows.projectManyUptoRow.knobs==[]))=true:=by kernel_rfl
theorem k9:((Tryz.prog.stopKnobs==[]))=true:=by kernel_rfl
theorem k10:((Rows.projectManyUptoRow.inPlace==Tryz.prog.inPlace 3))=true:=by kernel_rfl
theorem k11:((Rows.projectManyUptoRow.unfollowed==Tryz.prog.unfollowed 3))=true:=by kernel_rfl
theorem k12:((Rows.projectManyUptoRow.recurses==Tryz.prog.recurses 3))=true:=by kernel_rfl
theorem k13:((Rows.projectManyUptoRow.named==Tryz.prog.varsNamed 3))=true:=by kernel_rfl
theorem k14:((Rows.projectManyUptoRow.maps==(Tryz.f3.params.toList++((Rows.OpenSpec.upto Rows.projectManySpec).bare).plain.varTypes Tryz.prog).any (Tryz.prog.mapsRec ·)))=true:=by kernel_rfl
theorem k15:((Rows.projectManyUptoRow.ifaces==(Tryz.f3.params.toList++((Rows.OpenSpec.upto Rows.projectManySpec).bare).plain.varTypes Tryz.prog).any (Tryz.prog.ifacesRec ·)))=true:=by kernel_rfl
theorem k16:((Rows.projectManyUptoRow.mapsOut==Tryz.prog.mapsAmong Tryz.f3.resultTypes.toList))=true:=by kernel_rfl
theorem k17:((Rows.projectManyUptoRow.loops==(Tryz.f3.params.toList++((Rows.OpenSpec.upto Rows.projectManySpec).bare).plain.varTypes Tryz.prog).any (Tryz.prog.loopsFrom ·)))=true:=by kernel_rfl
theorem k18:((Rows.projectManyUptoRow.wideKeys==(Tryz.f3.params.toList++((Rows.OpenSpec.upto Rows.projectManySpec).bare).plain.varTypes Tryz.prog++Tryz.f3.resultTypes.toList).any (Tryz.prog.wideKeysFrom ·)))=true:=by kernel_rfl
theorem k19:(((Rows.OpenSpec.upto Rows.projectManySpec).bare).vars.all (Tryz.prog.varReadable ·))=true:=by kernel_rfl
theorem k20:(Tryz.f3.resultTypes.all (fun t=>Tryz.prog.readableRec t&&decide (t<Tryz.prog.types.size)))=true:=by kernel_rfl
theorem k21:((Rows.projectManyUptoRow.ifacesOut==Tryz.f3.resultTypes.toList.any (Tryz.prog.ifacesRec ·)))=true:=by kernel_rfl
theorem k22:((Rows.projectManyUptoRow.loopsOut==Tryz.f3.resultTypes.toList.any (Tryz.prog.loopsFrom ·)))=true:=by kernel_rfl
theorem k23:((Rows.projectManyUptoRow.plainKeys==Tryz.prog.plainKeys))=true:=by kernel_rfl
theorem k24:(Rows.projectManyUptoRow.shortTexts.isNone)=true:=by kernel_rfl
theorem k25:(Tryz.prog.stopsHeard)=true:=by kernel_rfl
theorem k26:(Tryz.prog.mayEnter)=true:=by kernel_rfl
theorem k27:((Rows.projectManyUptoRow.lifted==Tryz.prog.liftsFinal))=true:=by kernel_rfl
theorem k28:((Tryz.prog.make==some Rows.projectManyUptoRow.make))=true:=by kernel_rfl
theorem k29:((Rows.projectManyUptoRow.kinds==(if Rows.projectManyUptoRow.domain.isEmpty then[]else Tryz.f3.params.toList.map fun t=>match Tryz.prog.underlying t with|some (.int k)=>some k|_=>none)))=true:=by kernel_rfl
theorem k30:((Rows.projectManyUptoRow.pinned==Rows.projectManyUptoRow.pinnedBy))=true:=by kernel_rfl
theorem k31:((Rows.projectManyUptoRow.veiled==(Tryz.f3.params.toList++((Rows.OpenSpec.upto Rows.projectManySpec).bare).plain.varTypes Tryz.prog++Tryz.f3.resultTypes.toList).any (Tryz.prog.veiledRec ·)))=true:=by kernel_rfl
theorem k32:(Rows.projectManyUptoRow.veiledFits Tryz.prog Tryz.f3.params.toList (Tryz.f3.params.toList++((Rows.OpenSpec.upto Rows.projectManySpec).bare).plain.varTypes Tryz.prog++Tryz.f3.resultTypes.toList))=true:=by kernel_rfl
theorem closed:joinedFacts Tryz.prog 3 Tryz.f3 ((Rows.OpenSpec.upto Rows.projectManySpec).bare) Rows.projectManyUptoRow=true:=(dQ (dQ (dQ (dQ (dQ (dQ (dQ (dQ (dQ (dQ (dQ (dQ (dQ (dQ (dQ (dQ (dQ (dQ (dQ (dQ (dQ (dQ (dQ (dQ (dQ (dQ (dQ (dQ (dQ (dQ (dQ k1 k2) k3) k4) k5) k6) k7) k8) k9) k10) k11) k12) k13) k14) k15) k16) k17) k18) k19) k20) k21) k22) k23) k24) k25) k26) k27) k28) k29) k30) k31) k32)
theorem h1:Tryz.pinned.checked.prog.funcNamed Rows.projectManyUptoRow.func=some 3:=by kernel_rfl
theorem h2:Tryz.f3.isInstance Tryz.pinned.checked.prog Rows.projectManyUptoRow.origin Rows.projectManyUptoRow.targs:=of_decide_eq_true (by kernel_rfl)
theorem h3:Tryz.f3.isWrapper Tryz.pinned.checked.prog Rows.projectManyUptoRow.wrapper Rows.projectManyUptoRow.mainSum:=by unfold Func.isWrapper;first|(rw[if_pos (by decide+kernel)];kernel_rfl)|(rw[if_neg (by decide+kernel)];exact⟨rfl,rfl⟩)
end Go.Proofs.YtmoineigflegeaaGreatDoor.projectMany
namespace Go.Fp
end Go.Fp
namespace Go.Proofs.YtmoineigflegeaaGreatDoor.vd
open Go Go.Vs Go.Ve Go.Proofs.Tryz
def T:List (TypeId×TI):=[(1,⟨1,8,.func,(some [.aK .func])⟩),
 (2,⟨1,8,.int .i64,(some [.int .i64 0])⟩),
 (3,⟨1,8,.int .i64,(some [.int .i64 0])⟩),
 (4,⟨1,1,.bool,(some [.bool false])⟩),
 (5,⟨1,1,.int .u8,(some [.int .u8 0])⟩),
 (9,⟨1,16,.str,(some [.str []])⟩),
 (21,⟨1,4,.int .i32,(some [.int .i32 0])⟩),
 (23,⟨1,24,.slice 68,(some [.nil])⟩),
 (25,⟨2,32,.struct [(0,3),(1,23)],(some [.int .i64 0,.nil])⟩),
 (26,⟨1,8,.int .i64,(some [.int .i64 0])⟩),
 (29,⟨1,24,.slice 25,(some [.nil])⟩),
 (30,⟨1,24,.slice 55,(some [.nil])⟩),
 (32,⟨3,56,.struct [(0,29),(1,30),(2,3)],(some [.nil,.nil,.int .i64 0])⟩),
 (36,⟨1,24,.slice 3,(some [.nil])⟩),
 (43,⟨1,24,.slice 96,(some [.nil])⟩),
 (46,⟨1,8,.map 3 51,(some [.aK .map])⟩),
 (49,⟨1,24,.slice 53,(some [.nil])⟩),
 (51,⟨1,24,.slice 107,(some [.nil])⟩),
 (53,⟨2,16,.struct [(0,3),(1,3)],(some [.int .i64 0,.int .i64 0])⟩),
 (55,⟨10,104,.struct [(0,3),(1,3),(2,3),(3,53),(5,3),(6,51),(7,9),(8,3),(9,4)],(some [.int .i64 0,.int .i64 0,.int .i64 0,.int .i64 0,.int .i64 0,.int .i64 0,.nil,.str [],.int .i64 0,.bool false])⟩),
 (56,⟨1,8,.ptr 85,(some [.aK .ptr])⟩),
 (68,⟨3,40,.struct [(0,4),(1,9),(2,9)],(some [.bool false,.str [],.str []])⟩),
 (77,⟨1,24,.slice 4,(some [.nil])⟩),
 (83,⟨1,8,.map 87 51,(some [.aK .map])⟩),
 (85,⟨4,64,.struct [(0,32),(3,83)],(some [.nil,.nil,.int .i64 0,.aK .map])⟩),
 (87,⟨2,16,.struct [(0,3),(1,3)],(some [.int .i64 0,.int .i64 0])⟩),
 (88,⟨1,8,.map 3 90,(some [.aK .map])⟩),
 (90,⟨0,0,.struct [],(some [])⟩),
 (91,⟨32,32,.array 32 5,(some [.int .u8 0,.int .u8 0,.int .u8 0,.int .u8 0,.int .u8 0,.int .u8 0,.int .u8 0,.int .u8 0,.int .u8 0,.int .u8 0,.int .u8 0,.int .u8 0,.int .u8 0,.int .u8 0,.int .u8 0,.int .u8 0,.int .u8 0,.int .u8 0,.int .u8 0,.int .u8 0,.int .u8 0,.int .u8 0,.int .u8 0,.int .u8 0,.int .u8 0,.int .u8 0,.int .u8 0,.int .u8 0,.int .u8 0,.int .u8 0,.int .u8 0,.int .u8 0])⟩),
 (93,⟨34,48,.struct [(0,91),(32,3),(33,4)],(some [.int .u8 0,.int .u8 0,.int .u8 0,.int .u8 0,.int .u8 0,.int .u8 0,.int .u8 0,.int .u8 0,.int .u8 0,.int .u8 0,.int .u8 0,.int .u8 0,.int .u8 0,.int .u8 0,.int .u8 0,.int .u8 0,.int .u8 0,.int .u8 0,.int .u8 0,.int .u8 0,.int .u8 0,.int .u8 0,.int .u8 0,.int .u8 0,.int .u8 0,.int .u8 0,.int .u8 0,.int .u8 0,.int .u8 0,.int .u8 0,.int .u8 0,.int .u8 0,.int .i64 0,.bool false])⟩),
 (94,⟨1,24,.slice 93,(some [.nil])⟩),
 (96,⟨3,56,.struct [(0,4),(1,94),(2,94)],(some [.bool false,.nil,.nil])⟩),
 (101,⟨1,8,.ptr 103,(some [.aK .ptr])⟩),
 (103,⟨3,48,.struct [(0,9),(1,23),(2,3)],(some [.str [],.nil,.int .i64 0])⟩),
 (107,⟨3,32,.struct [(0,3),(1,9),(2,3)],(some [.int .i64 0,.str [],.int .i64 0])⟩),
 (121,⟨1,8,.ptr 124,(some [.aK .ptr])⟩),
 (122,⟨1,24,.slice 5,(some [.nil])⟩),
 (124,⟨2,32,.struct [(0,121),(1,122)],(some [.aK .ptr,.nil])⟩),
 (126,⟨1,16,.iface,(some [.aK .iface])⟩),
 (146,⟨1,8,.ptr 5,(some [.aK .ptr])⟩),
 (151,⟨1,8,.func,(some [.aK .func])⟩),
 (156,⟨1,24,.slice 51,(some [.nil])⟩),
 (162,⟨1,8,.ptr 218,(some [.aK .ptr])⟩),
 (168,⟨1,8,.map 9 4,(some [.aK .map])⟩),
 (173,⟨1,8,.ptr 175,(some [.aK .ptr])⟩),
 (175,⟨6,56,.struct [(0,9),(1,162),(2,3),(3,3),(4,3),(5,3)],(some [.str [],.aK .ptr,.int .i64 0,.int .i64 0,.int .i64 0,.int .i64 0])⟩),
 (180,⟨1,8,.ptr 187,(some [.aK .ptr])⟩),
 (185,⟨3,72,.struct [(0,51),(1,122),(2,36)],(some [.nil,.nil,.nil])⟩),
 (187,⟨5,104,.struct [(0,185),(3,51),(4,3)],(some [.nil,.nil,.nil,.nil,.int .i64 0])⟩),
 (188,⟨1,8,.ptr 192,(some [.aK .ptr])⟩),
 (192,⟨5,88,.struct [(0,185),(3,3),(4,3)],(some [.nil,.nil,.nil,.int .i64 0,.int .i64 0])⟩),
 (193,⟨1,8,.ptr 185,(some [.aK .ptr])⟩),
 (202,⟨1,8,.map 107 3,(some [.aK .map])⟩),
 (204,⟨1,24,.slice 9,(some [.nil])⟩),
 (211,⟨1,8,.int .u64,(some [.int .u64 0])⟩),
 (212,⟨1,8,.map 3 4,(some [.aK .map])⟩),
 (213,⟨1,8,.map 3 3,(some [.aK .map])⟩),
 (214,⟨5,80,.array 5 9,(some [.str [],.str [],.str [],.str [],.str []])⟩),
 (216,⟨6,96,.array 6 9,(some [.str [],.str [],.str [],.str [],.str [],.str []])⟩),
 (218,⟨3,48,.struct [(0,9),(1,3),(2,23)],(some [.str [],.int .i64 0,.nil])⟩),
 (238,⟨1,8,.ptr 234,(some [.aK .ptr])⟩),
 (249,⟨1,8,.ptr 286,(some [.aK .ptr])⟩),
 (252,⟨24,24,.array 24 5,(some [.int .u8 0,.int .u8 0,.int .u8 0,.int .u8 0,.int .u8 0,.int .u8 0,.int .u8 0,.int .u8 0,.int .u8 0,.int .u8 0,.int .u8 0,.int .u8 0,.int .u8 0,.int .u8 0,.int .u8 0,.int .u8 0,.int .u8 0,.int .u8 0,.int .u8 0,.int .u8 0,.int .u8 0,.int .u8 0,.int .u8 0,.int .u8 0])⟩),
 (253,⟨1,8,.int .u64,(some [.int .u64 0])⟩),
 (258,⟨1,4,.int .u32,(some [.int .u32 0])⟩),
 (266,⟨1,8,.int .i64,(some [.int .i64 0])⟩),
 (273,⟨0,0,.struct [],(some [])⟩),
 (274,⟨0,0,.struct [],(some [])⟩),
 (276,⟨1,4,.struct [(0,274),(0,258)],(some [.int .u32 0])⟩),
 (278,⟨2,8,.struct [(0,21),(1,258)],(some [.int .i32 0,.int .u32 0])⟩),
 (280,⟨2,8,.struct [(0,273),(0,278)],(some [.int .i32 0,.int .u32 0])⟩),
 (282,⟨3,12,.struct [(0,273),(0,276),(1,280)],(some [.int .u32 0,.int .i32 0,.int .u32 0])⟩),
 (284,⟨1,16,.iface,(some [.aK .iface])⟩),
 (286,⟨5,56,.struct [(0,282),(3,284),(4,204)],(some [.int .u32 0,.int .i32 0,.int .u32 0,.aK .iface,.nil])⟩),
 (289,⟨20,160,.array 20 253,(some [.int .u64 0,.int .u64 0,.int .u64 0,.int .u64 0,.int .u64 0,.int .u64 0,.int .u64 0,.int .u64 0,.int .u64 0,.int .u64 0,.int .u64 0,.int .u64 0,.int .u64 0,.int .u64 0,.int .u64 0,.int .u64 0,.int .u64 0,.int .u64 0,.int .u64 0,.int .u64 0])⟩),
 (292,⟨1,8,.int .u64,(some [.int .u64 0])⟩),
 (296,⟨1,8,.ptr 3,(some [.aK .ptr])⟩),
 (298,⟨1,8,.ptr 282,(some [.aK .ptr])⟩),
 (302,⟨2,2,.struct [(0,5),(1,5)],(some [.int .u8 0,.int .u8 0])⟩),
 (303,⟨32,32,.array 16 302,(some [.int .u8 0,.int .u8 0,.int .u8 0,.int .u8 0,.int .u8 0,.int .u8 0,.int .u8 0,.int .u8 0,.int .u8 0,.int .u8 0,.int .u8 0,.int .u8 0,.int .u8 0,.int .u8 0,.int .u8 0,.int .u8 0,.int .u8 0,.int .u8 0,.int .u8 0,.int .u8 0,.int .u8 0,.int .u8 0,.int .u8 0,.int .u8 0,.int .u8 0,.int .u8 0,.int .u8 0,.int .u8 0,.int .u8 0,.int .u8 0,.int .u8 0,.int .u8 0])⟩),
 (305,⟨1,8,.ptr 292,(some [.aK .ptr])⟩),
 (307,⟨1,8,.ptr 276,(some [.aK .ptr])⟩),
 (309,⟨1,8,.ptr 258,(some [.aK .ptr])⟩),
 (311,⟨1,8,.ptr 328,(some [.aK .ptr])⟩),
 (313,⟨1,8,.ptr 334,(some [.aK .ptr])⟩),
 (322,⟨1,8,.ptr 280,(some [.aK .ptr])⟩),
 (325,⟨1,8,.ptr 344,(some [.aK .ptr])⟩),
 (328,⟨2,24,.struct [(0,325),(1,9)],(some [.aK .ptr,.str []])⟩),
 (329,⟨1,8,.ptr 332,(some [.aK .ptr])⟩),
 (330,⟨1,24,.slice 329,(some [.nil])⟩),
 (332,⟨5,72,.struct [(0,9),(1,3),(2,9),(3,329),(4,330)],(some [.str [],.int .i64 0,.str [],.aK .ptr,.nil])⟩),
 (336,⟨1,8,.ptr 278,(some [.aK .ptr])⟩),
 (338,⟨1,8,.ptr 21,(some [.aK .ptr])⟩)]
def R:List (TypeId×Ty):=[(2,(.int .i64)),
 (3,(.int .i64)),
 (4,.bool),
 (5,(.int .u8)),
 (9,.str),
 (21,(.int .i32)),
 (23,(.sl (.pair .bool (.pair .str .str)))),
 (25,(.pair (.int .i64) (.sl (.pair .bool (.pair .str .str))))),
 (26,(.int .i64)),
 (29,(.sl (.pair (.int .i64) (.sl (.pair .bool (.pair .str .str)))))),
 (30,(.sl (.pair (.int .i64) (.pair (.int .i64) (.pair (.int .i64) (.pair (.pair (.int .i64) (.int .i64)) (.pair (.int .i64) (.pair (.sl (.pair (.int .i64) (.pair .str (.int .i64)))) (.pair .str (.pair (.int .i64) .bool)))))))))),
 (32,(.pair (.sl (.pair (.int .i64) (.sl (.pair .bool (.pair .str .str))))) (.pair (.sl (.pair (.int .i64) (.pair (.int .i64) (.pair (.int .i64) (.pair (.pair (.int .i64) (.int .i64)) (.pair (.int .i64) (.pair (.sl (.pair (.int .i64) (.pair .str (.int .i64)))) (.pair .str (.pair (.int .i64) .bool))))))))) (.int .i64)))),
 (36,(.sl (.int .i64))),
 (43,(.sl (.pair .bool (.pair (.sl (.pair (.pair (.int .u8) (.pair (.int .u8) (.pair (.int .u8) (.pair (.int .u8) (.pair (.int .u8) (.pair (.int .u8) (.pair (.int .u8) (.pair (.int .u8) (.pair (.int .u8) (.pair (.int .u8) (.pair (.int .u8) (.pair (.int .u8) (.pair (.int .u8) (.pair (.int .u8) (.pair (.int .u8) (.pair (.int .u8) (.pair (.int .u8) (.pair (.int .u8) (.pair (.int .u8) (.pair (.int .u8) (.pair (.int .u8) (.pair (.int .u8) (.pair (.int .u8) (.pair (.int .u8) (.pair (.int .u8) (.pair (.int .u8) (.pair (.int .u8) (.pair (.int .u8) (.pair (.int .u8) (.pair (.int .u8) (.pair (.int .u8) (.int .u8)))))))))))))))))))))))))))))))) (.pair (.int .i64) .bool))) (.sl (.pair (.pair (.int .u8) (.pair (.int .u8) (.pair (.int .u8) (.pair (.int .u8) (.pair (.int .u8) (.pair (.int .u8) (.pair (.int .u8) (.pair (.int .u8) (.pair (.int .u8) (.pair (.int .u8) (.pair (.int .u8) (.pair (.int .u8) (.pair (.int .u8) (.pair (.int .u8) (.pair (.int .u8) (.pair (.int .u8) (.pair (.int .u8) (.pair (.int .u8) (.pair (.int .u8) (.pair (.int .u8) (.pair (.int .u8) (.pair (.int .u8) (.pair (.int .u8) (.pair (.int .u8) (.pair (.int .u8) (.pair (.int .u8) (.pair (.int .u8) (.pair (.int .u8) (.pair (.int .u8) (.pair (.int .u8) (.pair (.int .u8) (.int .u8)))))))))))))))))))))))))))))))) (.pair (.int .i64) .bool))))))),
 (46,(.aU false (.int .i64) (.sl (.pair (.int .i64) (.pair .str (.int .i64)))))),
 (49,(.sl (.pair (.int .i64) (.int .i64)))),
 (51,(.sl (.pair (.int .i64) (.pair .str (.int .i64))))),
 (53,(.pair (.int .i64) (.int .i64))),
 (55,(.pair (.int .i64) (.pair (.int .i64) (.pair (.int .i64) (.pair (.pair (.int .i64) (.int .i64)) (.pair (.int .i64) (.pair (.sl (.pair (.int .i64) (.pair .str (.int .i64)))) (.pair .str (.pair (.int .i64) .bool))))))))),
 (68,(.pair .bool (.pair .str .str))),
 (77,(.sl .bool)),
 (83,(.aU false (.pair (.int .i64) (.int .i64)) (.sl (.pair (.int .i64) (.pair .str (.int .i64)))))),
 (85,(.pair (.pair (.sl (.pair (.int .i64) (.sl (.pair .bool (.pair .str .str))))) (.pair (.sl (.pair (.int .i64) (.pair (.int .i64) (.pair (.int .i64) (.pair (.pair (.int .i64) (.int .i64)) (.pair (.int .i64) (.pair (.sl (.pair (.int .i64) (.pair .str (.int .i64)))) (.pair .str (.pair (.int .i64) .bool))))))))) (.int .i64))) (.sl (.aU false (.pair (.int .i64) (.int .i64)) (.sl (.pair (.int .i64) (.pair .str (.int .i64)))))))),
 (87,(.pair (.int .i64) (.int .i64))),
 (88,(.set (.int .i64))),
 (91,(.pair (.int .u8) (.pair (.int .u8) (.pair (.int .u8) (.pair (.int .u8) (.pair (.int .u8) (.pair (.int .u8) (.pair (.int .u8) (.pair (.int .u8) (.pair (.int .u8) (.pair (.int .u8) (.pair (.int .u8) (.pair (.int .u8) (.pair (.int .u8) (.pair (.int .u8) (.pair (.int .u8) (.pair (.int .u8) (.pair (.int .u8) (.pair (.int .u8) (.pair (.int .u8) (.pair (.int .u8) (.pair (.int .u8) (.pair (.int .u8) (.pair (.int .u8) (.pair (.int .u8) (.pair (.int .u8) (.pair (.int .u8) (.pair (.int .u8) (.pair (.int .u8) (.pair (.int .u8) (.pair (.int .u8) (.pair (.int .u8) (.int .u8))))))))))))))))))))))))))))))))),
 (93,(.pair (.pair (.int .u8) (.pair (.int .u8) (.pair (.int .u8) (.pair (.int .u8) (.pair (.int .u8) (.pair (.int .u8) (.pair (.int .u8) (.pair (.int .u8) (.pair (.int .u8) (.pair (.int .u8) (.pair (.int .u8) (.pair (.int .u8) (.pair (.int .u8) (.pair (.int .u8) (.pair (.int .u8) (.pair (.int .u8) (.pair (.int .u8) (.pair (.int .u8) (.pair (.int .u8) (.pair (.int .u8) (.pair (.int .u8) (.pair (.int .u8) (.pair (.int .u8) (.pair (.int .u8) (.pair (.int .u8) (.pair (.int .u8) (.pair (.int .u8) (.pair (.int .u8) (.pair (.int .u8) (.pair (.int .u8) (.pair (.int .u8) (.int .u8)))))))))))))))))))))))))))))))) (.pair (.int .i64) .bool))),
 (94,(.sl (.pair (.pair (.int .u8) (.pair (.int .u8) (.pair (.int .u8) (.pair (.int .u8) (.pair (.int .u8) (.pair (.int .u8) (.pair (.int .u8) (.pair (.int .u8) (.pair (.int .u8) (.pair (.int .u8) (.pair (.int .u8) (.pair (.int .u8) (.pair (.int .u8) (.pair (.int .u8) (.pair (.int .u8) (.pair (.int .u8) (.pair (.int .u8) (.pair (.int .u8) (.pair (.int .u8) (.pair (.int .u8) (.pair (.int .u8) (.pair (.int .u8) (.pair (.int .u8) (.pair (.int .u8) (.pair (.int .u8) (.pair (.int .u8) (.pair (.int .u8) (.pair (.int .u8) (.pair (.int .u8) (.pair (.int .u8) (.pair (.int .u8) (.int .u8)))))))))))))))))))))))))))))))) (.pair (.int .i64) .bool)))),
 (96,(.pair .bool (.pair (.sl (.pair (.pair (.int .u8) (.pair (.int .u8) (.pair (.int .u8) (.pair (.int .u8) (.pair (.int .u8) (.pair (.int .u8) (.pair (.int .u8) (.pair (.int .u8) (.pair (.int .u8) (.pair (.int .u8) (.pair (.int .u8) (.pair (.int .u8) (.pair (.int .u8) (.pair (.int .u8) (.pair (.int .u8) (.pair (.int .u8) (.pair (.int .u8) (.pair (.int .u8) (.pair (.int .u8) (.pair (.int .u8) (.pair (.int .u8) (.pair (.int .u8) (.pair (.int .u8) (.pair (.int .u8) (.pair (.int .u8) (.pair (.int .u8) (.pair (.int .u8) (.pair (.int .u8) (.pair (.int .u8) (.pair (.int .u8) (.pair (.int .u8) (.int .u8)))))))))))))))))))))))))))))))) (.pair (.int .i64) .bool))) (.sl (.pair (.pair (.int .u8) (.pair (.int .u8) (.pair (.int .u8) (.pair (.int .u8) (.pair (.int .u8) (.pair (.int .u8) (.pair (.int .u8) (.pair (.int .u8) (.pair (.int .u8) (.pair (.int .u8) (.pair (.int .u8) (.pair (.int .u8) (.pair (.int .u8) (.pair (.int .u8) (.pair (.int .u8) (.pair (.int .u8) (.pair (.int .u8) (.pair (.int .u8) (.pair (.int .u8) (.pair (.int .u8) (.pair (.int .u8) (.pair (.int .u8) (.pair (.int .u8) (.pair (.int .u8) (.pair (.int .u8) (.pair (.int .u8) (.pair (.int .u8) (.pair (.int .u8) (.pair (.int .u8) (.pair (.int .u8) (.pair (.int .u8) (.int .u8)))))))))))))))))))))))))))))))) (.pair (.int .i64) .bool)))))),
 (103,(.pair .str (.pair (.sl (.pair .bool (.pair .str .str))) (.int .i64)))),
 (107,(.pair (.int .i64) (.pair .str (.int .i64)))),
 (122,(.sl (.int .u8))),
 (156,(.sl (.sl (.pair (.int .i64) (.pair .str (.int .i64)))))),
 (168,(.aU false .str .bool)),
 (185,(.pair (.sl (.pair (.int .i64) (.pair .str (.int .i64)))) (.pair (.sl (.int .u8)) (.sl (.int .i64))))),
 (187,(.pair (.pair (.sl (.pair (.int .i64) (.pair .str (.int .i64)))) (.pair (.sl (.int .u8)) (.sl (.int .i64)))) (.pair (.sl (.pair (.int .i64) (.pair .str (.int .i64)))) (.int .i64)))),
 (192,(.pair (.pair (.sl (.pair (.int .i64) (.pair .str (.int .i64)))) (.pair (.sl (.int .u8)) (.sl (.int .i64)))) (.pair (.int .i64) (.int .i64)))),
 (202,(.aU false (.pair (.int .i64) (.pair .str (.int .i64))) (.int .i64))),
 (204,(.sl .str)),
 (211,(.int .u64)),
 (212,(.aU false (.int .i64) .bool)),
 (213,(.aU false (.int .i64) (.int .i64))),
 (214,(.pair .str (.pair .str (.pair .str (.pair .str .str))))),
 (216,(.pair .str (.pair .str (.pair .str (.pair .str (.pair .str .str)))))),
 (218,(.pair .str (.pair (.int .i64) (.sl (.pair .bool (.pair .str .str)))))),
 (252,(.pair (.int .u8) (.pair (.int .u8) (.pair (.int .u8) (.pair (.int .u8) (.pair (.int .u8) (.pair (.int .u8) (.pair (.int .u8) (.pair (.int .u8) (.pair (.int .u8) (.pair (.int .u8) (.pair (.int .u8) (.pair (.int .u8) (.pair (.int .u8) (.pair (.int .u8) (.pair (.int .u8) (.pair (.int .u8) (.pair (.int .u8) (.pair (.int .u8) (.pair (.int .u8) (.pair (.int .u8) (.pair (.int .u8) (.pair (.int .u8) (.pair (.int .u8) (.int .u8))))))))))))))))))))))))),
 (253,(.int .u64)),
 (258,(.int .u32)),
 (266,(.int .i64)),
 (278,(.pair (.int .i32) (.int .u32))),
 (289,(.pair (.int .u64) (.pair (.int .u64) (.pair (.int .u64) (.pair (.int .u64) (.pair (.int .u64) (.pair (.int .u64) (.pair (.int .u64) (.pair (.int .u64) (.pair (.int .u64) (.pair (.int .u64) (.pair (.int .u64) (.pair (.int .u64) (.pair (.int .u64) (.pair (.int .u64) (.pair (.int .u64) (.pair (.int .u64) (.pair (.int .u64) (.pair (.int .u64) (.pair (.int .u64) (.int .u64))))))))))))))))))))),
 (292,(.int .u64)),
 (302,(.pair (.int .u8) (.int .u8))),
 (303,(.pair (.pair (.int .u8) (.int .u8)) (.pair (.pair (.int .u8) (.int .u8)) (.pair (.pair (.int .u8) (.int .u8)) (.pair (.pair (.int .u8) (.int .u8)) (.pair (.pair (.int .u8) (.int .u8)) (.pair (.pair (.int .u8) (.int .u8)) (.pair (.pair (.int .u8) (.int .u8)) (.pair (.pair (.int .u8) (.int .u8)) (.pair (.pair (.int .u8) (.int .u8)) (.pair (.pair (.int .u8) (.int .u8)) (.pair (.pair (.int .u8) (.int .u8)) (.pair (.pair (.int .u8) (.int .u8)) (.pair (.pair (.int .u8) (.int .u8)) (.pair (.pair (.int .u8) (.int .u8)) (.pair (.pair (.int .u8) (.int .u8)) (.pair (.int .u8) (.int .u8))))))))))))))))))]
def cN {α:Type} (p:α→Prop):List α→Prop
 | []=>True
 |a :: r=>p a∧cN p r
theorem cN.mem {α:Type} {p:α→Prop}:∀{l:List α},cN p l→∀x∈l,p x
 |_ :: _,h,_,.head _=>h.1
 |_ :: _,h,_,.tail _ hx=>cN.mem h.2 _ hx
set_option maxRecDepth 100000 in
theorem abj:cN (fun x=>ay prog x.1=some x.2) T:=⟨by show ay prog _=some _;kernel_rfl,by show ay prog _=some _;kernel_rfl,by show ay prog _=some _;kernel_rfl,by show ay prog _=some _;kernel_rfl,by show ay prog _=some _;kernel_rfl,by show ay prog _=some _;kernel_rfl,by show ay prog _=some _;kernel_rfl,by show ay prog _=some _;kernel_rfl,by show ay prog _=some _;kernel_rfl,by show ay prog _=some _;kernel_rfl,by show ay prog _=some _;kernel_rfl,by show ay prog _=some _;kernel_rfl,by show ay prog _=some _;kernel_rfl,by show ay prog _=some _;kernel_rfl,by show ay prog _=some _;kernel_rfl,by show ay prog _=some _;kernel_rfl,by show ay prog _=some _;kernel_rfl,by show ay prog _=some _;kernel_rfl,by show ay prog _=some _;kernel_rfl,by show ay prog _=some _;kernel_rfl,by show ay prog _=some _;kernel_rfl,by show ay prog _=some _;kernel_rfl,by show ay prog _=some _;kernel_rfl,by show ay prog _=some _;kernel_rfl,by show ay prog _=some _;kernel_rfl,by show ay prog _=some _;kernel_rfl,by show ay prog _=some _;kernel_rfl,by show ay prog _=some _;kernel_rfl,by show ay prog _=some _;kernel_rfl,by show ay prog _=some _;kernel_rfl,by show ay prog _=some _;kernel_rfl,by show ay prog _=some _;kernel_rfl,by show ay prog _=some _;kernel_rfl,by show ay prog _=some _;kernel_rfl,by show ay prog _=some _;kernel_rfl,by show ay prog _=some _;kernel_rfl,by show ay prog _=some _;kernel_rfl,by show ay prog _=some _;kernel_rfl,by show ay prog _=some _;kernel_rfl,by show ay prog _=some _;kernel_rfl,by show ay prog _=some _;kernel_rfl,by show ay prog _=some _;kernel_rfl,by show ay prog _=some _;kernel_rfl,by show ay prog _=some _;kernel_rfl,by show ay prog _=some _;kernel_rfl,by show ay prog _=some _;kernel_rfl,by show ay prog _=some _;kernel_rfl,by show ay prog _=some _;kernel_rfl,by show ay prog _=some _;kernel_rfl,by show ay prog _=some _;kernel_rfl,by show ay prog _=some _;kernel_rfl,by show ay prog _=some _;kernel_rfl,by show ay prog _=some _;kernel_rfl,by show ay prog _=some _;kernel_rfl,by show ay prog _=some _;kernel_rfl,by show ay prog _=some _;kernel_rfl,by show ay prog _=some _;kernel_rfl,by show ay prog _=some _;kernel_rfl,by show ay prog _=some _;kernel_rfl,by show ay prog _=some _;kernel_rfl,by show ay prog _=some _;kernel_rfl,by show ay prog _=some _;kernel_rfl,by show ay prog _=some _;kernel_rfl,by show ay prog _=some _;kernel_rfl,by show ay prog _=some _;kernel_rfl,by show ay prog _=some _;kernel_rfl,by show ay prog _=some _;kernel_rfl,by show ay prog _=some _;kernel_rfl,by show ay prog _=some _;kernel_rfl,by show ay prog _=some _;kernel_rfl,by show ay prog _=some _;kernel_rfl,by show ay prog _=some _;kernel_rfl,by show ay prog _=some _;kernel_rfl,by show ay prog _=some _;kernel_rfl,by show ay prog _=some _;kernel_rfl,by show ay prog _=some _;kernel_rfl,by show ay prog _=some _;kernel_rfl,by show ay prog _=some _;kernel_rfl,by show ay prog _=some _;kernel_rfl,by show ay prog _=some _;kernel_rfl,by show ay prog _=some _;kernel_rfl,by show ay prog _=some _;kernel_rfl,by show ay prog _=some _;kernel_rfl,by show ay prog _=some _;kernel_rfl,by show ay prog _=some _;kernel_rfl,by show ay prog _=some _;kernel_rfl,by show ay prog _=some _;kernel_rfl,by show ay prog _=some _;kernel_rfl,by show ay prog _=some _;kernel_rfl,by show ay prog _=some _;kernel_rfl,by show ay prog _=some _;kernel_rfl,by show ay prog _=some _;kernel_rfl,by show ay prog _=some _;kernel_rfl,trivial⟩
theorem kW {α:Type} {t:Nat} {v:α}:∀{l:List (Nat×α)},lk t l=some v→(t,v)∈l
 |(u,w) :: l,h=>by
  unfold lk at h
  split at h
  ·rename_i e;cases h;subst e;simp
  ·exact List.mem_cons_of_mem _ (kW h)
def EQ:List (TypeId×List Sc):=[(53,[.int .i64,.int .i64]),(68,[.bool,.str,.str]),(87,[.int .i64,.int .i64]),(107,[.int .i64,.str,.int .i64]),(278,[.int .i32,.int .u32]),(302,[.int .u8,.int .u8])]
theorem abk:cN (fun x=>sW prog x.1 x.2) EQ:=⟨ji (by kernel_rfl) (by kernel_rfl) (by kernel_rfl) (by kernel_rfl),ji (by kernel_rfl) (by kernel_rfl) (by kernel_rfl) (by kernel_rfl),ji (by kernel_rfl) (by kernel_rfl) (by kernel_rfl) (by kernel_rfl),ji (by kernel_rfl) (by kernel_rfl) (by kernel_rfl) (by kernel_rfl),ji (by kernel_rfl) (by kernel_rfl) (by kernel_rfl) (by kernel_rfl),ji (by kernel_rfl) (by kernel_rfl) (by kernel_rfl) (by kernel_rfl),trivial⟩
def GT:List (Nat×List Int):=[(1,[1,10,100,1000,10000,100000,1000000,10000000,100000000,1000000000,10000000000,100000000000,1000000000000,10000000000000,100000000000000,1000000000000000,10000000000000000,100000000000000000,1000000000000000000,10000000000000000000])]
set_option maxRecDepth 100000 in
theorem afE:cN (fun x=>(x.1,x.2.map fun n=>Value.int .u64 n)∈oM prog) GT:=⟨List.mem_of_getElem? (i:=0) (by kernel_rfl),trivial⟩
theorem bE {cfg:aP} (h:cfg.T=T) (he:(cfg.eqs==[]||cfg.eqs==EQ)=true) (hg:(cfg.nB==[]||cfg.nB==GT)=true:=by rfl):eS prog cfg:=
 ⟨fun t i hi=>cN.mem abj (t,i) (kW (by rw[←h];exact hi)),fun t sh ht=>by
  rw[Bool.or_eq_true,beq_iff_eq,beq_iff_eq]at he
  rcases he with he|he
  ·rw[he]at ht;cases ht
  ·rw[he]at ht;exact cN.mem abk (t,sh) (kW ht),fun g l hl=>by
  rw[Bool.or_eq_true,beq_iff_eq,beq_iff_eq]at hg
  rcases hg with hg|hg
  ·rw[hg]at hl;cases hl
  ·rw[hg]at hl;exact cN.mem afE (g,l) (kW hl)⟩
theorem mix:prog.follows .mixedOrders=true:=by kernel_rfl
end Go.Proofs.YtmoineigflegeaaGreatDoor.vd
namespace Go.Proofs.YtmoineigflegeaaGreatDoor.vd
open Go Go.Vs Go.Ve Go.Fp Go.Proofs.Tryz
def F5:aZ:={ cfg:={ N:=14,T:=T,R:=R,az:=fun _ f=>bA f [],var:=[0,1,2,3,4],res:=[4],eqs:=EQ,dat:=[2,3,4],bK:=true },keys:=[0,1,4,9],aQ:=[] }
def S5:aF:={ args:=[.one (.i .i64),.one (.i .i64)],boxes:=[],res:=[.one (.i .i64)],bf:=[],aB:=[] }
def L5:Nat→Option aX:=fun _=>none
set_option maxRecDepth 100000 in
theorem aDl:∀x,bF F5 L5 f5 S5 x=(fun x=>ni x.1 x.2) x:=by
 intro x
 kernel_rfl
theorem fn5:bh prog 5 (S5.F (fun x=>ni x.1 x.2)):=bG (F:=F5) (tbl:=L5) func5 (by kernel_rfl) mix (bH (l:=[]) (bE rfl rfl) rfl (by simp)) (by kernel_rfl) (by kernel_rfl) (by decide) (fun _=>by kernel_rfl) aDl
def C5:aV:=S5.az (by kernel_rfl) (fun x=>ni x.1 x.2)
theorem G5:bq prog (5,C5):=bI func5 (by kernel_rfl) (by kernel_rfl) fn5
def F11:aZ:={ cfg:={ N:=13,T:=T,R:=R,az:=fun _ f=>bA f [],var:=[0,1,2],res:=[2],eqs:=EQ,dat:=[1,2],bK:=true },keys:=[0,2],aQ:=[] }
def S11:aF:={ args:=[.one (.i .i64)],boxes:=[],res:=[.one .b],bf:=[],aB:=[] }
def L11:Nat→Option aX:=fun _=>none
set_option maxRecDepth 100000 in
theorem aDn:∀x,bF F11 L11 f11 S11 x=(fun x=>aaN x) x:=by
 intro x
 kernel_rfl
theorem aDo:bh prog 11 (S11.F (fun x=>aaN x)):=bG (F:=F11) (tbl:=L11) func11 (by kernel_rfl) mix (bH (l:=[]) (bE rfl rfl) rfl (by simp)) (by kernel_rfl) (by kernel_rfl) (by decide) (fun _=>by kernel_rfl) aDn
def C11:aV:=S11.az (by kernel_rfl) (fun x=>aaN x)
theorem G11:bq prog (11,C11):=bI func11 (by kernel_rfl) (by kernel_rfl) aDo
def F56:aZ:={ cfg:={ N:=103,T:=T,R:=R,az:=fun _ f=>bA f [],var:=[0,1,2,3,4,5,6,7,8],res:=[4,5,6],eqs:=EQ,dat:=[2,3,4,5,6,7,8],bK:=true },keys:=[0,1,4,5,6,7,8,20,46,50,58,82],aQ:=[] }
def uL:aF:={ args:=[.one .s,.one (.i .i64)],boxes:=[],res:=[.one (.i .i64),.one .b,.one .b],bf:=[],aB:=[] }
def L56:Nat→Option aX:=fun n=>match n with
 |0=>some { head:={ live:=[0,7,8],aO:=[],vs:=[.slot 8 (.i .i64)] },bT:=[(.exit 0,{ live:=[0,7,8],aO:=[],vs:=[.slot 8 (.i .i64)] })] }
 |1=>some { head:={ live:=[0,7,8],aO:=[],vs:=[.slot 8 (.i .i64)] },bT:=[(.exit 2,{ live:=[0,7,8],aO:=[],vs:=[.slot 8 (.i .i64)] })] }
 |_=>none
set_option maxRecDepth 100000 in
theorem aj4:∀x,bF F56 L56 f56 uL x=(fun x=>lY x.1 x.2) x:=by
 intro x
 kernel_rfl
theorem aj5:bh prog 56 (uL.F (fun x=>lY x.1 x.2)):=bG (F:=F56) (tbl:=L56) func56 (by kernel_rfl) mix (bH (l:=[]) (bE rfl rfl) rfl (by simp)) (by kernel_rfl) (by kernel_rfl) (by decide) (fun _=>by kernel_rfl) aj4
def xZ:aV:=uL.az (by kernel_rfl) (fun x=>lY x.1 x.2)
theorem G56:bq prog (56,xZ):=bI func56 (by kernel_rfl) (by kernel_rfl) aj5
def abn:aZ:={ cfg:={ N:=7,T:=T,R:=R,az:=fun _ f=>bA f [],var:=[0,1],res:=[2],eqs:=EQ,dat:=[1],bK:=true },keys:=[0,2],aQ:=[.loc 2] }
def uM:aF:={ args:=[.one (.i .u8)],boxes:=[],res:=[.row (.pair (.int .i64) (.pair .str (.int .i64)))],bf:=[],aB:=[] }
def abo:Nat→Option aX:=fun _=>none
set_option maxRecDepth 100000 in
theorem aj7:∀x,bF abn abo f136 uM x=(fun x=>nj x) x:=by
 intro x
 kernel_rfl
theorem aj8:bh prog 136 (uM.F (fun x=>nj x)):=bG (F:=abn) (tbl:=abo) func136 (by kernel_rfl) mix (bH (l:=[]) (bE rfl rfl) rfl (by simp)) (by kernel_rfl) (by kernel_rfl) (by decide) (fun _=>by kernel_rfl) aj7
def rY:aV:=uM.az (by kernel_rfl) (fun x=>nj x)
theorem afF:bq prog (136,rY):=bI func136 (by kernel_rfl) (by kernel_rfl) aj8
def abp:aZ:={ cfg:={ N:=24,T:=T,R:=R,az:=fun _ f=>bA f [(136,rY)],var:=[0,1,3,6,12],res:=[2,3],eqs:=EQ,dat:=[1,3,6,12],bK:=true },keys:=[0,2,3,5,6,9,12,15],aQ:=[.loc 2] }
def uN:aF:={ args:=[.one .s],boxes:=[],res:=[.row (.pair (.int .i64) (.pair .str (.int .i64))),.one (.i .i64)],bf:=[],aB:=[] }
def abq:Nat→Option aX:=fun _=>none
set_option maxRecDepth 100000 in
theorem aj9:∀x,bF abp abq f104 uN x=(fun x=>pO x) x:=by
 intro x
 kernel_rfl
theorem aka:bh prog 104 (uN.F (fun x=>pO x)):=bG (F:=abp) (tbl:=abq) func104 (by kernel_rfl) mix (bH (l:=[(136,rY)]) (bE rfl rfl) rfl (List.forall_mem_cons.2 ⟨afF,by simp⟩)) (by kernel_rfl) (by kernel_rfl) (by decide) (fun _=>by kernel_rfl) aj9
def rZ:aV:=uN.az (by kernel_rfl) (fun x=>pO x)
theorem afG:bq prog (104,rZ):=bI func104 (by kernel_rfl) (by kernel_rfl) aka
def F77:aZ:={ cfg:={ N:=23,T:=T,R:=R,az:=fun _ f=>bA f [(104,rZ)],var:=[0,1,2,3,5,7,13],res:=[4,5],eqs:=EQ,dat:=[2,3,5,7,13],bK:=true },keys:=[0,1,4,5,6,7,13],aQ:=[.loc 4] }
def uO:aF:={ args:=[.one (.i .i64),.one .s],boxes:=[],res:=[.row (.pair (.int .i64) (.pair .str (.int .i64))),.one (.i .i64)],bf:=[],aB:=[] }
def L77:Nat→Option aX:=fun _=>none
set_option maxRecDepth 100000 in
theorem akb:∀x,bF F77 L77 f77 uO x=(fun x=>rO x.1 x.2) x:=by
 intro x
 kernel_rfl
theorem akc:bh prog 77 (uO.F (fun x=>rO x.1 x.2)):=bG (F:=F77) (tbl:=L77) func77 (by kernel_rfl) mix (bH (l:=[(104,rZ)]) (bE rfl rfl) rfl (List.forall_mem_cons.2 ⟨afG,by simp⟩)) (by kernel_rfl) (by kernel_rfl) (by decide) (fun _=>by kernel_rfl) akb
def x5:aV:=uO.az (by kernel_rfl) (fun x=>rO x.1 x.2)
theorem G77:bq prog (77,x5):=bI func77 (by kernel_rfl) (by kernel_rfl) akc
def F47:aZ:={ cfg:={ N:=18,T:=T,R:=R,az:=fun _ f=>bA f [],var:=[0,1,2,3],res:=[2],eqs:=EQ,dat:=[1,2,3],bK:=true },keys:=[0,2,3,7,13],aQ:=[] }
def uP:aF:={ args:=[.one .s],boxes:=[],res:=[.one .s],bf:=[],aB:=[] }
def L47:Nat→Option aX:=fun n=>match n with
 |0=>some { head:={ live:=[0,3],aO:=[],vs:=[.slot 3 (.i .i64)] },bT:=[(.ret,{ live:=[2],aO:=[],vs:=[.slot 2 .s] }),(.exit 0,{ live:=[0],aO:=[],vs:=[] })] }
 |_=>none
set_option maxRecDepth 100000 in
theorem ake:∀x,bF F47 L47 f47 uP x=(fun x=>rN x) x:=by
 intro x
 kernel_rfl
theorem akf:bh prog 47 (uP.F (fun x=>rN x)):=bG (F:=F47) (tbl:=L47) func47 (by kernel_rfl) mix (bH (l:=[]) (bE rfl rfl) rfl (by simp)) (by kernel_rfl) (by kernel_rfl) (by decide) (fun _=>by kernel_rfl) ake
def x6:aV:=uP.az (by kernel_rfl) (fun x=>rN x)
theorem G47:bq prog (47,x6):=bI func47 (by kernel_rfl) (by kernel_rfl) akf
def abw:aZ:={ cfg:={ N:=61,T:=T,R:=R,az:=fun _ f=>bA f [],var:=[0,1,2,3,4,5,6],res:=[2],eqs:=EQ,dat:=[1,2,3,4,5,6],bK:=true },keys:=[0,2,3,4,5,6,8,9,10,18,25,38],aQ:=[.loc 5] }
def uQ:aF:={ args:=[.one (.n .data (.pair (.int .i64) (.pair .str (.int .i64))))],boxes:=[],res:=[.one (.n .data (.pair (.int .i64) (.pair .str (.int .i64))))],bf:=[],aB:=[] }
def abx:Nat→Option aX:=fun n=>match n with
 |0=>some { head:={ live:=[0,3,8,9],aO:=[],vs:=[.slot 3 (.n .own (.pair (.int .i64) (.pair .str (.int .i64)))),.slot 9 (.i .i64)] },bT:=[(.exit 0,{ live:=[3],aO:=[],vs:=[.slot 3 (.n .own (.pair (.int .i64) (.pair .str (.int .i64))))] })] }
 |_=>none
set_option maxRecDepth 100000 in
theorem akh:∀x,bF abw abx f105 uQ x=(fun x=>pN x) x:=by
 intro x
 kernel_rfl
theorem aki:bh prog 105 (uQ.F (fun x=>pN x)):=bG (F:=abw) (tbl:=abx) func105 (by kernel_rfl) mix (bH (l:=[]) (bE rfl rfl) rfl (by simp)) (by kernel_rfl) (by kernel_rfl) (by decide) (fun _=>by kernel_rfl) akh
def sg:aV:=uQ.az (by kernel_rfl) (fun x=>pN x)
theorem afH:bq prog (105,sg):=bI func105 (by kernel_rfl) (by kernel_rfl) aki
def F78:aZ:={ cfg:={ N:=10,T:=T,R:=R,az:=fun _ f=>bA f [(105,sg)],var:=[0,1,2,3,4],res:=[4],eqs:=EQ,dat:=[2,3,4],bK:=true },keys:=[0,1,4],aQ:=[] }
def uR:aF:={ args:=[.one (.n .data (.pair (.int .i64) (.pair .str (.int .i64)))),.one (.n .data (.pair (.int .i64) (.pair .str (.int .i64))))],boxes:=[],res:=[.one (.n .data (.pair (.int .i64) (.pair .str (.int .i64))))],bf:=[],aB:=[] }
def L78:Nat→Option aX:=fun _=>none
set_option maxRecDepth 100000 in
theorem akj:∀x,bF F78 L78 f78 uR x=(fun x=>ou x.1 x.2) x:=by
 intro x
 kernel_rfl
theorem akk:bh prog 78 (uR.F (fun x=>ou x.1 x.2)):=bG (F:=F78) (tbl:=L78) func78 (by kernel_rfl) mix (bH (l:=[(105,sg)]) (bE rfl rfl) rfl (List.forall_mem_cons.2 ⟨afH,by simp⟩)) (by kernel_rfl) (by kernel_rfl) (by decide) (fun _=>by kernel_rfl) akj
def x7:aV:=uR.az (by kernel_rfl) (fun x=>ou x.1 x.2)
theorem G78:bq prog (78,x7):=bI func78 (by kernel_rfl) (by kernel_rfl) akk
def F49:aZ:={ cfg:={ N:=115,T:=T,R:=R,az:=fun _ f=>bA f [(77,x5),(47,x6),(78,x7)],var:=[0,1,2,3,4,5,6,7,8,9,10,11,12,13,14,15,16,17,41,48],res:=[4,5,6,7],eqs:=EQ,dat:=[2,3,4,5,6,7,8,9,10,11,12,13,14,15,16,17,41,48],bK:=true },keys:=[0,1,4,5,6,7,8,9,10,11,12,13,14,15,16,17,21,31,35,40,41,48,65,87,91,107],aQ:=[.loc 14] }
def S49:aF:={ args:=[.one (.i .i64),.one .s],boxes:=[],res:=[.one (.n .data (.pair (.int .i64) (.pair .str (.int .i64)))),.one (.n .data (.int .i64)),.one (.i .i64),.one (.i .i64)],bf:=[],aB:=[] }
def L49:Nat→Option aX:=fun n=>match n with
 |0=>some { head:={ live:=[0,1,8,9,10,11,12,13],aO:=[],vs:=[.slot 8 (.n .data (.pair (.int .i64) (.pair .str (.int .i64)))),.slot 9 (.n .own (.pair (.int .i64) (.pair .str (.int .i64)))),.slot 10 (.n .own (.int .i64)),.slot 11 (.i .i64),.slot 12 (.i .i64),.slot 13 (.i .i64)] },bT:=[(.ret,{ live:=[4,5,6,7],aO:=[],vs:=[.slot 4 (.n .data (.pair (.int .i64) (.pair .str (.int .i64)))),.slot 5 (.n .data (.int .i64)),.slot 6 (.i .i64),.slot 7 (.i .i64)] }),(.exit 0,{ live:=[1,8,9,10,12],aO:=[],vs:=[.slot 8 (.n .data (.pair (.int .i64) (.pair .str (.int .i64)))),.slot 9 (.n .own (.pair (.int .i64) (.pair .str (.int .i64)))),.slot 10 (.n .own (.int .i64)),.slot 12 (.i .i64)] })] }
 |_=>none
set_option maxRecDepth 100000 in
theorem aDq:∀x,bF F49 L49 f49 S49 x=(fun x=>aaO x.1 x.2) x:=by
 intro x
 kernel_rfl
theorem aDr:bh prog 49 (S49.F (fun x=>aaO x.1 x.2)):=bG (F:=F49) (tbl:=L49) func49 (by kernel_rfl) mix (bH (l:=[(77,x5),(47,x6),(78,x7)]) (bE rfl rfl) rfl (List.forall_mem_cons.2 ⟨G77,List.forall_mem_cons.2 ⟨G47,List.forall_mem_cons.2 ⟨G78,by simp⟩⟩⟩)) (by kernel_rfl) (by kernel_rfl) (by decide) (fun _=>by kernel_rfl) aDq
def C49:aV:=S49.az (by kernel_rfl) (fun x=>aaO x.1 x.2)
theorem G49:bq prog (49,C49):=bI func49 (by kernel_rfl) (by kernel_rfl) aDr
def F79:aZ:={ cfg:={ N:=17,T:=T,R:=R,az:=fun _ f=>bA f [],var:=[0,1,2,3],res:=[2],eqs:=EQ,dat:=[1,2,3],bK:=true },keys:=[0,2,3,15],aQ:=[] }
def uS:aF:={ args:=[.one (.i .i64)],boxes:=[],res:=[.one .s],bf:=[],aB:=[] }
def L79:Nat→Option aX:=fun n=>match n with
 |0=>some { head:={ live:=[0,3],aO:=[],vs:=[.slot 0 (.i .i64),.slot 3 .s] },bT:=[(.ret,{ live:=[2],aO:=[],vs:=[.slot 2 .s] })] }
 |_=>none
set_option maxRecDepth 100000 in
theorem ako:∀x,bF F79 L79 f79 uS x=(fun x=>kV x) x:=by
 intro x
 kernel_rfl
theorem akp:bh prog 79 (uS.F (fun x=>kV x)):=bG (F:=F79) (tbl:=L79) func79 (by kernel_rfl) mix (bH (l:=[]) (bE rfl rfl) rfl (by simp)) (by kernel_rfl) (by kernel_rfl) (by decide) (fun _=>by kernel_rfl) ako
def si:aV:=uS.az (by kernel_rfl) (fun x=>kV x)
theorem G79:bq prog (79,si):=bI func79 (by kernel_rfl) (by kernel_rfl) akp
def F51:aZ:={ cfg:={ N:=16,T:=T,R:=R,az:=fun _ f=>bA f [(79,si)],var:=[0,1,2],res:=[2],eqs:=EQ,dat:=[1,2],bK:=true },keys:=[0,2,8],aQ:=[] }
def uT:aF:={ args:=[.one (.i .i64)],boxes:=[],res:=[.one .s],bf:=[],aB:=[] }
def L51:Nat→Option aX:=fun _=>none
set_option maxRecDepth 100000 in
theorem akq:∀x,bF F51 L51 f51 uT x=(fun x=>ot x) x:=by
 intro x
 kernel_rfl
theorem akr:bh prog 51 (uT.F (fun x=>ot x)):=bG (F:=F51) (tbl:=L51) func51 (by kernel_rfl) mix (bH (l:=[(79,si)]) (bE rfl rfl) rfl (List.forall_mem_cons.2 ⟨G79,by simp⟩)) (by kernel_rfl) (by kernel_rfl) (by decide) (fun _=>by kernel_rfl) akq
def x8:aV:=uT.az (by kernel_rfl) (fun x=>ot x)
theorem G51:bq prog (51,x8):=bI func51 (by kernel_rfl) (by kernel_rfl) akr
def F50:aZ:={ cfg:={ N:=41,T:=T,R:=R,az:=fun _ f=>bA f [],var:=[0,1,2,3,4,5,6,7],res:=[],eqs:=EQ,dat:=[4,5,6,7],bK:=true },keys:=[0,1,2,3],aQ:=[.inb 0] }
def S50:aF:={ args:=[.ptr (.inb 0) 0,.one .s,.one (.i .i64),.one (.i .i64)],boxes:=[.cells [.s,.n .own (.pair .bool (.pair .str .str)),.i .i64]],res:=[],bf:=[[some .s,some (.n .own (.pair .bool (.pair .str .str))),some (.i .i64)]],aB:=[] }
def L50:Nat→Option aX:=fun _=>none
set_option maxRecDepth 100000 in
theorem aDt:∀x,bF F50 L50 f50 S50 x=(fun x=>xk x.1 x.2.1 x.2.2.1 x.2.2.2) x:=by
 intro x
 kernel_rfl
theorem aDu:bh prog 50 (S50.F (fun x=>xk x.1 x.2.1 x.2.2.1 x.2.2.2)):=bG (F:=F50) (tbl:=L50) func50 (by kernel_rfl) mix (bH (l:=[]) (bE rfl rfl) rfl (by simp)) (by kernel_rfl) (by kernel_rfl) (by decide) (fun _=>by kernel_rfl) aDt
def C50:aV:=S50.az (by kernel_rfl) (fun x=>xk x.1 x.2.1 x.2.2.1 x.2.2.2)
theorem G50:bq prog (50,C50):=bI func50 (by kernel_rfl) (by kernel_rfl) aDu
def F52:aZ:={ cfg:={ N:=19,T:=T,R:=R,az:=fun _ f=>bA f [],var:=[0,1,2],res:=[2],eqs:=EQ,dat:=[1,2],bK:=true },keys:=[0,2],aQ:=[.inb 0] }
def S52:aF:={ args:=[.ptr (.inb 0) 0],boxes:=[.cells [.s,.n .own (.pair .bool (.pair .str .str)),.i .i64]],res:=[.one (.n .data (.pair .bool (.pair .str .str)))],bf:=[[some .s,some .dd,some (.i .i64)]],aB:=[] }
def L52:Nat→Option aX:=fun _=>none
set_option maxRecDepth 100000 in
theorem aDw:∀x,bF F52 L52 f52 S52 x=(fun x=>aaP x) x:=by
 intro x
 kernel_rfl
theorem aDx:bh prog 52 (S52.F (fun x=>aaP x)):=bG (F:=F52) (tbl:=L52) func52 (by kernel_rfl) mix (bH (l:=[]) (bE rfl rfl) rfl (by simp)) (by kernel_rfl) (by kernel_rfl) (by decide) (fun _=>by kernel_rfl) aDw
def C52:aV:=S52.az (by kernel_rfl) (fun x=>aaP x)
theorem G52:bq prog (52,C52):=bI func52 (by kernel_rfl) (by kernel_rfl) aDx
def F25:aZ:={ cfg:={ N:=138,T:=T,R:=R,az:=fun _ f=>bA f [(56,xZ),(49,C49),(51,x8),(50,C50),(52,C52)],var:=[0,2,3,4,5,6,7,8,9,10,11,12,13,14,15,16,17,18,19],res:=[2,3,4],eqs:=EQ,dat:=[2,3,4,5,6,7,8,9,10,11,12,13,14,15,16,17,18,19],bK:=true },keys:=[0,2,3,4,5,6,7,8,9,10,11,12,13,14,15,18,19,30,60,70,80,94,120,124,126,128,132],aQ:=[.loc 22] }
def S25:aF:={ args:=[.one .s],boxes:=[],res:=[.one (.n .data (.pair .bool (.pair .str .str))),.one (.i .i64),.one (.i .i64)],bf:=[],aB:=[] }
def L25:Nat→Option aX:=fun n=>match n with
 |0=>some { head:={ live:=[0,5,6,7,8,9],aO:=[(.loc 22)],vs:=[.slot 6 (.i .i64),.slot 7 (.i .i64),.slot 8 (.i .i64),.slot 9 (.i .i64),.cell (.loc 22) 0 .s,.cell (.loc 22) 1 (.n .own (.pair .bool (.pair .str .str))),.cell (.loc 22) 2 (.i .i64)] },bT:=[(.ret,{ live:=[2,3,4],aO:=[],vs:=[.slot 2 (.n .data (.pair .bool (.pair .str .str))),.slot 3 (.i .i64),.slot 4 (.i .i64)] }),(.exit 0,{ live:=[5],aO:=[(.loc 22)],vs:=[.cell (.loc 22) 0 .s,.cell (.loc 22) 1 (.n .own (.pair .bool (.pair .str .str))),.cell (.loc 22) 2 (.i .i64)] })] }
 |1=>some { head:={ live:=[0,5,6,7,8,9,10,11,12],aO:=[(.loc 22)],vs:=[.slot 6 (.i .i64),.slot 8 (.i .i64),.slot 11 (.i .i64),.slot 12 (.i .i64),.cell (.loc 22) 0 .s,.cell (.loc 22) 1 (.n .own (.pair .bool (.pair .str .str))),.cell (.loc 22) 2 (.i .i64)] },bT:=[(.ret,{ live:=[2,3,4],aO:=[],vs:=[.slot 2 (.n .data (.pair .bool (.pair .str .str))),.slot 3 (.i .i64),.slot 4 (.i .i64)] }),(.exit 2,{ live:=[0,5,6,7,8,9,10,11,12],aO:=[(.loc 22)],vs:=[.slot 6 (.i .i64),.slot 8 (.i .i64),.slot 11 (.i .i64),.slot 12 (.i .i64),.cell (.loc 22) 0 .s,.cell (.loc 22) 1 (.n .own (.pair .bool (.pair .str .str))),.cell (.loc 22) 2 (.i .i64)] })] }
 |_=>none
set_option maxRecDepth 100000 in
theorem aDz:∀x,bF F25 L25 f25 S25 x=(fun x=>xm x) x:=by
 intro x
 kernel_rfl
theorem aDA:bh prog 25 (S25.F (fun x=>xm x)):=bG (F:=F25) (tbl:=L25) func25 (by kernel_rfl) mix (bH (l:=[(56,xZ),(49,C49),(51,x8),(50,C50),(52,C52)]) (bE rfl rfl) rfl (List.forall_mem_cons.2 ⟨G56,List.forall_mem_cons.2 ⟨G49,List.forall_mem_cons.2 ⟨G51,List.forall_mem_cons.2 ⟨G50,List.forall_mem_cons.2 ⟨G52,by simp⟩⟩⟩⟩⟩)) (by kernel_rfl) (by kernel_rfl) (by decide) (fun _=>by kernel_rfl) aDz
def C25:aV:=S25.az (by kernel_rfl) (fun x=>xm x)
theorem G25:bq prog (25,C25):=bI func25 (by kernel_rfl) (by kernel_rfl) aDA
def F12:aZ:={ cfg:={ N:=30,T:=T,R:=R,az:=fun _ f=>bA f [(25,C25)],var:=[0,1,2,3,4,5,6,11,18],res:=[4,5,6],eqs:=EQ,dat:=[2,3,4,5,6,11,18],bK:=true },keys:=[0,1,4,5,6,9,10,11,18],aQ:=[] }
def S12:aF:={ args:=[.one (.i .i64),.one .s],boxes:=[],res:=[.one (.n .data (.pair .bool (.pair .str .str))),.one (.i .i64),.one (.i .i64)],bf:=[],aB:=[] }
def L12:Nat→Option aX:=fun _=>none
set_option maxRecDepth 100000 in
theorem aDC:∀x,bF F12 L12 f12 S12 x=(fun x=>aaQ x.1 x.2) x:=by
 intro x
 kernel_rfl
theorem aDD:bh prog 12 (S12.F (fun x=>aaQ x.1 x.2)):=bG (F:=F12) (tbl:=L12) func12 (by kernel_rfl) mix (bH (l:=[(25,C25)]) (bE rfl rfl) rfl (List.forall_mem_cons.2 ⟨G25,by simp⟩)) (by kernel_rfl) (by kernel_rfl) (by decide) (fun _=>by kernel_rfl) aDC
def C12:aV:=S12.az (by kernel_rfl) (fun x=>aaQ x.1 x.2)
theorem G12:bq prog (12,C12):=bI func12 (by kernel_rfl) (by kernel_rfl) aDD
def F6:aZ:={ cfg:={ N:=29,T:=T,R:=R,az:=fun _ f=>bA f [(11,C11),(12,C12)],var:=[0,1,2,3,5,6,7,8,9],res:=[5,6],eqs:=EQ,dat:=[2,3,5,6,7,8,9],bK:=true },keys:=[0,1,4,5,6,7,8,9,12,22],aQ:=[.loc 4] }
def S6:aF:={ args:=[.one (.i .i64),.one .s],boxes:=[],res:=[.row (.pair (.int .i64) (.sl (.pair .bool (.pair .str .str)))),.one (.i .i64),.one (.i .i64)],bf:=[],aB:=[] }
def L6:Nat→Option aX:=fun _=>none
set_option maxRecDepth 100000 in
theorem aDF:∀x,bF F6 L6 f6 S6 x=(fun x=>xo x.1 x.2) x:=by
 intro x
 kernel_rfl
theorem fn6:bh prog 6 (S6.F (fun x=>xo x.1 x.2)):=bG (F:=F6) (tbl:=L6) func6 (by kernel_rfl) mix (bH (l:=[(11,C11),(12,C12)]) (bE rfl rfl) rfl (List.forall_mem_cons.2 ⟨G11,List.forall_mem_cons.2 ⟨G12,by simp⟩⟩)) (by kernel_rfl) (by kernel_rfl) (by decide) (fun _=>by kernel_rfl) aDF
def C6:aV:=S6.az (by kernel_rfl) (fun x=>xo x.1 x.2)
theorem G6:bq prog (6,C6):=bI func6 (by kernel_rfl) (by kernel_rfl) fn6
def F26:aZ:={ cfg:={ N:=13,T:=T,R:=R,az:=fun _ f=>bA f [],var:=[0,1,2],res:=[2],eqs:=EQ,dat:=[1,2],bK:=true },keys:=[0,2],aQ:=[] }
def S26:aF:={ args:=[.one (.i .i64)],boxes:=[],res:=[.one .b],bf:=[],aB:=[] }
def L26:Nat→Option aX:=fun _=>none
set_option maxRecDepth 100000 in
theorem aDH:∀x,bF F26 L26 f26 S26 x=(fun x=>pS x) x:=by
 intro x
 kernel_rfl
theorem aDI:bh prog 26 (S26.F (fun x=>pS x)):=bG (F:=F26) (tbl:=L26) func26 (by kernel_rfl) mix (bH (l:=[]) (bE rfl rfl) rfl (by simp)) (by kernel_rfl) (by kernel_rfl) (by decide) (fun _=>by kernel_rfl) aDH
def uU:aV:=S26.az (by kernel_rfl) (fun x=>pS x)
theorem G26:bq prog (26,uU):=bI func26 (by kernel_rfl) (by kernel_rfl) aDI
end Go.Proofs.YtmoineigflegeaaGreatDoor.vd
namespace Go.Proofs
open Go.Shelf
def Tryz.ato:Go.Shelf.Ren:=⟨fun|169=>59|n=>n,fun|70=>121|9=>9|0=>0|72=>124|37=>122|127=>146|3=>3|5=>5|n=>n,fun|n=>n⟩
theorem Tryz.akD:Go.Proofs.Lays.n169 Tryz.prog Tryz.ato:={
 mixed:=by kernel_rfl
 f169:=Tryz.func59.trans (congrArg some (by kernel_rfl))
 t0:=Tryz.underlying0
 a0:=Tryz.isAgg0
 z0:=Tryz.sizeOf0
 v0:=Tryz.zeroValue0
 t3:=Tryz.underlying3
 a3:=Tryz.isAgg3
 z3:=Tryz.sizeOf3
 v3:=Tryz.zeroValue3
 t9:=Tryz.underlying9
 a9:=Tryz.isAgg9
 z9:=Tryz.sizeOf9
 v9:=Tryz.zeroValue9
 t37:=Tryz.underlying122
 a37:=Tryz.isAgg122
 z37:=Tryz.sizeOf122
 v37:=Tryz.zeroValue122
 t70:=Tryz.underlying121
 a70:=Tryz.isAgg121
 z70:=Tryz.sizeOf121
 v70:=Tryz.zeroValue121
 t72:=Tryz.underlying124
 a72:=Tryz.isAgg124
 z72:=Tryz.sizeOf124
 v72:=Tryz.zeroValue124
 t127:=Tryz.underlying146
 a127:=Tryz.isAgg146
 z127:=Tryz.sizeOf146
 v127:=Tryz.zeroValue146 }
theorem Tryz.akE:Builder.Extra Tryz.prog Tryz.ato:={
 sizeBuilder:=by kernel_rfl
 liesBuilder:=by kernel_rfl
 t5:=Tryz.underlying5
 a5:=Tryz.isAgg5
 z5:=Tryz.sizeOf5
 v5:=Tryz.zeroValue5
 infoByte:=by kernel_rfl
 cellsByte:=by kernel_rfl
 sizeByte:=by kernel_rfl
 neB5:=by decide }
open Go.RowKit in
theorem Tryz.Builder_String (B b:Nat) (l:List UInt8) (w:World) (h:Lib.IsBuilder 124 5 B b (Lib.byteCells l) w) (h0:l≠[]):
 Calls Tryz.prog 59 #[.pointer (some ⟨b,0,none⟩)] w fun e w'=>e= .returned (.string ⟨l.toArray⟩)∧Below B w w':=Any.Builder_String Tryz.akD Tryz.akE B b l w h h0
open Go.RowKit in
theorem Tryz.Builder_String_empty (B b:Nat) (w:World) (h:Lib.IsBuilder 124 5 B b [] w) (hBw:B≤w.heap.size):
 Calls Tryz.prog 59 #[.pointer (some ⟨b,0,none⟩)] w fun e w'=>e= .returned (.string ⟨#[]⟩)∧Below B w w':=Any.Builder_String_empty Tryz.akD Tryz.akE B b w h hBw
open Go.RowKit in
theorem Tryz.Builder_String_any (B b:Nat) (l:List UInt8) (w:World) (h:Lib.IsBuilder 124 5 B b (Lib.byteCells l) w) (hBw:B≤w.heap.size):
 Calls Tryz.prog 59 #[.pointer (some ⟨b,0,none⟩)] w fun e w'=>e= .returned (.string ⟨l.toArray⟩)∧Below B w w':=Any.Builder_String_any Tryz.akD Tryz.akE B b l w h hBw
end Go.Proofs
namespace Go.Proofs.YtmoineigflegeaaGreatDoor.vx
open Go Go.RowKit Go.Proofs
theorem sizeBuilder:(Tryz.prog.info? 124).map (·.size)=some 2:=by kernel_rfl
theorem liesBuilder:liesAt Tryz.prog Tryz.prog.depth 124 (2 / Tryz.prog.cellsOf 124) 0 124 1=true:=by kernel_rfl
set_option maxHeartbeats 1000000 in
set_option maxRecDepth 100000 in
theorem aDJ (b:Nat) (w:World) (h0:w.cell? ⟨b,0,none⟩=some (.pointer (some ⟨b,0,none⟩))):
  Calls Tryz.prog 83 #[.pointer (some ⟨b,0,none⟩)] w fun e w'=>e= .returned (.tuple #[])∧w'=w:=by
 obtain⟨j,hj,_⟩:=Option.map_eq_some_iff.1 sizeBuilder
 go_enter Tryz.func83,Tryz.ntmps83
 go_wp2
 rw[Lib.run_neq_ptr_same w _ Tryz.underlying121 hj]
 go_wp2
 go_end0
 exact⟨rfl,rfl⟩
set_option maxHeartbeats 1000000 in
set_option maxRecDepth 100000 in
theorem aDK (b:Nat) (w:World) (h0:w.cell? ⟨b,0,none⟩=some (.pointer none)) (hsh:w.shape? b=some (124,2)) (hfz:w.frozen? ⟨b,0,none⟩=false):
  Calls Tryz.prog 83 #[.pointer (some ⟨b,0,none⟩)] w fun e w'=>e= .returned (.tuple #[])∧w'=w.setCell ⟨b,0,none⟩ (.pointer (some ⟨b,0,none⟩)):=by
 obtain⟨j,hj,hjs⟩:=Option.map_eq_some_iff.1 sizeBuilder
 go_enter Tryz.func83,Tryz.ntmps83
 go_wp2
 rw[Lib.run_to_unsafe w ⟨b,0,none⟩ Tryz.underlying121 Tryz.underlying178 hj (by rw[hjs];decide) hsh (Nat.zero_lt_succ 1)]
 simp only[Result.andThen]
 rw[Oper.upon_value]
 go_wp2
 rw[run_callFunc_extern Tryz.func115 (by kernel_rfl) (by kernel_rfl) (by kernel_rfl) (e:=Extern.AbiNoEscape.same) (by kernel_rfl)]
 rw[Lib.run_noEscape]
 simp only[Result.andThen]
 rw[Oper.upon_value]
 go_wp2
 rw[Lib.run_from_unsafe w ⟨b,0,none⟩ Tryz.underlying178 Tryz.underlying121 hj hsh liesBuilder]
 simp only[Result.andThen]
 rw[Oper.upon_value]
 go_wp2
 go_end0
 exact⟨rfl,rfl⟩
theorem aDM (B b:Nat) (bs:List Value) (w:World) (h:Lib.IsBuilder 124 5 B b bs w):
  Calls Tryz.prog 83 #[.pointer (some ⟨b,0,none⟩)] w fun e w'=>e= .returned (.tuple #[])∧(Lib.BuilderAt 124 5 B b (.pointer (some ⟨b,0,none⟩)) bs w'∧Below B w w'):=by
 rcases h with h|h
 ·refine(aDK b w h.cell0 h.shape h.frozen0).mono ?_
  rintro e w' ⟨rfl,rfl⟩
  exact⟨rfl,h.used _,(Below.refl B w).setCell (p:=⟨b,0,none⟩) h.1 _⟩
 ·refine(aDJ b w h.cell0).mono ?_
  rintro e w' ⟨rfl,rfl⟩
  exact⟨rfl,h,Below.refl B _⟩
theorem infoByte:(Tryz.prog.info? 5).map (fun i=>(i.zero,i.size,i.bytes))=some (some (.int .u8 0),1,1):=by kernel_rfl
set_option maxHeartbeats 2000000 in
set_option maxRecDepth 100000 in
theorem writeString (B b:Nat) (bs:List Value) (s:ByteArray) (w:World) (h:Lib.IsBuilder 124 5 B b bs w) (hlen:bs.length+s.size≤140737488355328) (hBw:B≤w.heap.size):
  Calls Tryz.prog 58 #[.pointer (some ⟨b,0,none⟩),.string s] w fun e w'=>e= .returned (.tuple #[.int .i64 s.size,.nilIface])∧(Lib.BuilderAt 124 5 B b (.pointer (some ⟨b,0,none⟩)) (bs++Lib.strCells s) w'∧Below B w w'):=by
 obtain⟨i0,hi,hz0,hz1,y8⟩:=info_parts infoByte
 go_enter Tryz.func58,Tryz.ntmps58
 go_wp2_with (go_at_call 83;refine(aDM B b bs _ h).mono ?_)
 rintro e w1 ⟨rfl,h1,aM⟩
 obtain⟨hB,v,hbk,hown,hne⟩:=h1
 have c0:w1.cell? ⟨b,0,none⟩=some (.pointer (some ⟨b,0,none⟩)):=by rw[Lib.cell_of_heap hbk];rfl
 have c1:w1.cell? ⟨b,1,none⟩=some v:=by rw[Lib.cell_of_heap hbk];rfl
 go_wp2_with (at_builtin;refine Lib.wpList_append_own_string _ rfl _ _ 122 9 rfl B 5 i0 Tryz.underlying122 Tryz.underlying9 hi hz0 hz1 y8 _ _ _ rfl hown s rfl ?c3 ?c4 ?c5 ?_)
 case c3=>unfold maxLen;omega
 case c4=>omega
 case c5=>have:=aM.size;omega
 intro v' w2 atp hgrow _
 have hlt:b<w1.heap.size:=by
  rcases Nat.lt_or_ge b w1.heap.size with h'|h'
  ·exact h'
  ·simp[Array.getElem?_eq_none h']at hbk
 have cz:w2.heap[b]? =some (.cells #[.pointer (some ⟨b,0,none⟩),v] 124 (0,0)):=by
  rw[hgrow.block b hlt (fun e=>hne e.symm)]
  exact hbk
 have d0:w2.cell? ⟨b,0,none⟩=some (.pointer (some ⟨b,0,none⟩)):=by rw[Lib.cell_of_heap cz];rfl
 have d1:w2.cell? ⟨b,1,none⟩=some v:=by rw[Lib.cell_of_heap cz];rfl
 have f1:w2.frozen? ⟨b,1,none⟩=false:=Lib.frozen_of_heap cz 1
 obtain⟨ao,n',cap,rfl⟩:∃ao n' cap,v'= .slice ao n' cap:=by
  rcases atp.2 with⟨hv,_⟩|⟨g,cap,cur,hv,_⟩
  ·exact⟨_,_,_,hv⟩
  ·exact⟨_,_,_,hv⟩
 go_wp2
 go_ret2
 refine⟨rfl,?_,?_⟩
 ·exact Lib.BuilderAt.put (T:=124) (e:=5) hB cz (bs':=bs++Lib.strCells s) (by simpa[Lib.strCells_length]using atp) (by decide)
 ·exact(aM.grown hgrow (by have:=aM.size;omega) (fun k hk=>(hown.lt k hk).1)).setCell (p:=⟨b,1,none⟩) hB _
def kX (g:Nat→List UInt8):Nat→List UInt8
 |0=>[]
 |k+1=>kX g k++g k
theorem aDO (g:Nat→List UInt8):∀{a b:Nat},a≤b→(kX g a).length≤(kX g b).length:=by
 intro a b h
 induction h with
 |refl=>exact Nat.le_refl _
 |step _ ih=>simp only[kX,List.length_append];omega
theorem atq {T e:TypeId} {B b:Nat} {p:Value} {bs:List Value} {w:World} (h:Lib.BuilderAt T e B b p bs w) (o:Obj):Lib.BuilderAt T e B b p bs (w.alloc o):=by
 have hlt:=h.lt
 obtain⟨hB,v,hb,hown,hne⟩:=h
 exact⟨hB,v,(Lib.alloc_old w o b hlt).trans hb,hown.alloc o,hne⟩
theorem aDP {T e:TypeId} {B b:Nat} {bs:List Value} {w:World} (h:Lib.IsBuilder T e B b bs w) (o:Obj):Lib.IsBuilder T e B b bs (w.alloc o):=
 h.elim (fun h=>.inl (atq h o)) (fun h=>.inr (atq h o))
set_option maxHeartbeats 2000000 in
set_option maxRecDepth 100000 in
theorem aDQ (n:Int) (ad:Addr) (len cap:Nat) (hsp:ad.spot=none) (u:Nat→Bool) (ky g:Nat→List UInt8) (w:World) (hlc:len≤cap) (hln:len<4611686018427387904)
  (h0:∀k,k<len→w.cell? ⟨ad.block,ad.off+k * 3,none⟩=some (.bool (u k))) (h1:∀k,k<len→w.cell? ⟨ad.block,ad.off+k * 3+1,none⟩=some (.string ⟨(ky k).toArray⟩)) (h2:∀k,k<len→w.cell? ⟨ad.block,ad.off+k * 3+2,none⟩=some (.string ⟨(g k).toArray⟩))
  (hb:ad.block<w.heap.size) (aob:(kX g len).length≤140737488355328):
  Calls Tryz.prog 28 #[.agg #[.int .i64 n,.slice (some ad) len cap]] w fun e w'=>e= .returned (.string ⟨(kX g len).toArray⟩)∧Below w.heap.size w w':=by
 obtain⟨bl,off,sp⟩:=ad
 subst hsp
 go_enter Tryz.func28,Tryz.ntmps28
 go_wp2
 go_loopw [9] (fun i wr=>∃k:Nat,k≤len∧i= .int .i64 k∧Lib.IsBuilder 124 5 (w.heap.size+1) (w.heap.size+1) (Lib.byteCells (kX g k)) wr∧Below w.heap.size w wr∧w.heap.size+1<wr.heap.size) (fun i _=>len - (intOf i).toNat)
 case atStart=>
  have hf:=Lib.fresh_isBuilder 124 5 (w.alloc (.cells #[.int .i64 n,.slice (some ⟨bl,off,none⟩) len cap] 25))
  have e1:(w.alloc (.cells #[.int .i64 n,.slice (some ⟨bl,off,none⟩) len cap] 25)).heap.size=w.heap.size+1:=by simp
  rw[e1]at hf
  exact⟨0,Nat.zero_le _,rfl,hf,((Below.refl _ w).alloc (Nat.le_refl _) _).alloc (by simp) _,by simp⟩
 case round=>
  obtain⟨k,hk,rfl,hI,hbw,hsz⟩:=hrel
  by_cases hlt:k<len
  ·have c0:=(hbw.cell (p:=⟨bl,off+k * 3,none⟩) hb).trans (h0 k hlt)
   have c1:=(hbw.cell (p:=⟨bl,off+k * 3+1,none⟩) hb).trans (h1 k hlt)
   have c2:=(hbw.cell (p:=⟨bl,off+k * 3+2,none⟩) hb).trans (h2 k hlt)
   have hI2:=aDP hI (.cells #[.bool (u k),.string ⟨(ky k).toArray⟩,.string ⟨(g k).toArray⟩] 68)
   have hl:=aDO g (show k+1≤len by omega)
   simp only[kX,List.length_append]at hl
   go_wp2_with (go_at_call 58;refine(writeString (w.heap.size+1) (w.heap.size+1) _ _ _ hI2 (by
    have e2:(⟨(g k).toArray⟩:ByteArray).size=(g k).length:=by rw[Lib.size_eq]
    rw[Lib.byteCells_length,e2]
    omega) (Nat.le_trans (Nat.le_of_lt hsz) (by simp))).mono ?_)
   rintro e W1 ⟨rfl,hW1,b1⟩
   have hW2:Lib.IsBuilder 124 5 (w.heap.size+1) (w.heap.size+1) (Lib.byteCells (kX g (k+1))) W1:=by
    rw[Lib.strCells_eq,←Lib.byteCells_append]at hW1
    exact Or.inr hW1
   have aM:Below w.heap.size w W1:=(hbw.alloc (by omega) _).trans (b1.mono (Nat.le_succ _))
   have hs1:w.heap.size+1<W1.heap.size:=by have:=b1.size;simp at this;omega
   go_wp2
   go_roundw
   case rel=>exact⟨k+1,hlt,by go_num,hW2,aM,hs1⟩
   case measure=>simp[intOf];omega
  ·obtain rfl:k=len:=by omega
   go_wp2_with (go_at_call 59;refine(Tryz.Builder_String_any (w.heap.size+1) (w.heap.size+1) (kX g k) _ hI (by omega)).mono ?_)
   rintro e W1 ⟨rfl,b1⟩
   go_wp2
   go_ret
   exact⟨rfl,hbw.trans (b1.mono (Nat.le_succ _))⟩
open Go.Vs
def uV:List (List D)→Option (List (Bool×List UInt8×List UInt8))
 | []=>some []
 | [.bool u,.str k,.str g] :: r=>match uV r with|some l=>some ((u,k,g) :: l)|none=>none
 |_ :: _=>none
def x9 (l:List (Bool×List UInt8×List UInt8)):List UInt8:=l.flatMap fun p=>p.2.2
def ya:fc
 | [.one _],_=>none
 | [.agg [.d (.int .i64 _),.d (.sl 3 (x :: xs))]],[]=>match uV (x :: xs)with
   |some l=>match Nat.ble l.length 4611686018427387903,Nat.ble (x9 l).length 140737488355328 with
    |true,true=>some { v:=.one (.d (.str (x9 l))),boxes:=[] }
    |_,_=>none
   |none=>none
 |_,_=>none
theorem atv:∀{rows:List (List D)} {l:List (Bool×List UInt8×List UInt8)},uV rows=some l→rows.length=l.length∧∀(k:Nat) p,l[k]? =some p→rows[k]? =some [.bool p.1,.str p.2.1,.str p.2.2]
 | [],l,h=>by
   simp only[uV,Option.some.injEq]at h
   subst h
   exact⟨rfl,by simp⟩
 |x :: xs,l,h=>by
  unfold uV at h
  split at h
  ·rename_i heq;cases heq
  ·rename_i u k g r heq
   cases heq
   split at h
   ·rename_i l' hl'
    cases h
    obtain⟨h1,h2⟩:=atv hl'
    refine⟨by simp[h1],fun j p hj=>?_⟩
    cases j with
    |zero=>simp only[List.getElem?_cons_zero,Option.some.injEq]at hj ⊢;subst hj;rfl
    |succ j=>simpa using h2 j p (by simpa using hj)
   ·cases h
  ·cases h
theorem atw (l:List (Bool×List UInt8×List UInt8)):∀k,k≤l.length→kX (fun i=>((l[i]?).getD default).2.2) k=x9 (l.take k)
 |0,_=>by simp[kX,x9]
 |k+1,h=>by
  have:l[k]? =some l[k]:=List.getElem?_eq_getElem (by omega)
  have e:l.take (k+1)=l.take k++[l[k]]:=(List.take_append_getElem (by omega)).symm
  rw[kX,atw l k (by omega),e]
  simp only[x9,List.flatMap_append,List.flatMap_cons,List.flatMap_nil,List.append_nil,this,Option.getD_some]
theorem aDW:bh Tryz.prog 28 ya:=by
 intro args boxes r hF w vals β ω Z hsz hok iD hent
 unfold ya at hF
 split at hF
 ·cases hF
 ·rename_i n x xs
  split at hF
  ·rename_i l hl
   split at hF
   ·rename_i aM cz
    cases hF
    have aM:=Nat.le_of_ble_eq_true aM
    have cz:=Nat.le_of_ble_eq_true cz
    obtain⟨hlen,eP⟩:=atv hl
    have ha:=hent.args 0
    obtain⟨ws,e1,h1,h2,h3⟩:∃ws:Array Value,vals.getD 0 undef= .agg ws∧au (fun u c=>ax (cR Tryz.prog 0 w vals β ω Z) β Z (dI [.agg [.d (.int .i64 n),.d (.sl 3 (x :: xs))]] []) { tmps:= #[],defers:=[] } w c u) ws.toList [.d (.int .i64 n),.d (.sl 3 (x :: xs))]∧True∧True:=by
     obtain⟨ws,e1,e2⟩:=ha
     exact⟨ws,e1,e2,trivial,trivial⟩
    obtain⟨wl⟩:=ws
    match wl,h1 with
    | [v0,v1],h1=>
      obtain⟨g0,g1,_⟩:=h1
      have g0:v0= .int .i64 n:=g0
      have g1:bL w Z (.sl 3 (x :: xs)) v1:=g1
      obtain⟨ad,cap,q1,q2,q3,q4⟩:=(bL.iX (e:=3) rfl).1 g1
      subst g0;subst q1
      have hcap:cap≠0:=by simp at q3;omega
      obtain⟨hsp,hz⟩:=q2.resolve_left hcap
      have aDX:vals= #[.agg #[.int .i64 n,.slice (some ad) (x :: xs).length cap]]:=by
       apply Array.ext'
       have:vals.toList.length=1:=by simpa using hsz
       match hv:vals.toList,this with
       | [v],_=>
         have:vals.getD 0 undef=v:=by
          rw[Array.getD_eq_getD_getElem?,←Array.getElem?_toList,hv];rfl
         rw[this]at e1
         rw[e1]
      subst aDX
      have cells:∀k,k<(x :: xs).length→∃p,l[k]? =some p∧dK w Z [.bool p.1,.str p.2.1,.str p.2.2] ad.block (ad.off+k * 3):=by
       intro k hk
       have hk':k<l.length:=by rw[←hlen];exact hk
       exact⟨l[k],List.getElem?_eq_getElem hk',(q4.get (eP k l[k] (List.getElem?_eq_getElem hk'))).2⟩
      have hj:=atw l l.length (Nat.le_refl _)
      rw[List.take_length]at hj
      have walk:=aDQ n ad (x :: xs).length cap hsp (fun i=>((l[i]?).getD default).1) (fun i=>((l[i]?).getD default).2.1) (fun i=>((l[i]?).getD default).2.2) w q3 (by omega)
       (fun k hk=>by
         obtain⟨p,p1,⟨v,p2,p3⟩,_⟩:=cells k hk
         rw[p2];simp only[p1,Option.getD_some];exact congrArg some p3)
       (fun k hk=>by
         obtain⟨p,p1,_,⟨v,p2,p3⟩,_⟩:=cells k hk
         rw[p2];simp only[p1,Option.getD_some];exact congrArg some p3)
       (fun k hk=>by
         obtain⟨p,p1,_,_,⟨v,p2,p3⟩,_⟩:=cells k hk
         rw[show ad.off+k * 3+2=ad.off+k * 3+1+1 by omega,p2];simp only[p1,Option.getD_some];exact congrArg some p3)
       (hent.dH _ hz) (by rw[hlen,hj];exact cz)
      refine walk.mono ?_
      rintro e w' ⟨rfl,hb⟩
      refine⟨_,_,_,_,rfl,akF hent hok hb.os hb.tape hb.output hb.size (fun b hb' _=>hb.block b hb') (K₀:=cR Tryz.prog 0 w #[] β ω Z) (β₀:=β) (Z₀:=Z) (s₀:=dI [] []) (a₀:={ tmps:= #[],defers:=[] }) (w₀:=w) ?_ rfl rfl rfl⟩
      refine⟨rfl,?_⟩
      show Value.string _=Value.string _
      rw[hlen,hj]
   ·cases hF
  ·cases hF
 ·cases hF
theorem atx:fO Tryz.prog 28 ya:=adC Tryz.func28 (by kernel_rfl) rfl aDW
theorem qy {vals:Array Value} {l:List Value} (hs:vals.size=l.length) (h:∀i,i<l.length→vals.getD i undef=l.getD i undef):vals=l.toArray:=by
 apply Array.ext
 ·simpa using hs
 ·intro i h1 h2
  have:=h i (by omega)
  simp only[Array.getD_eq_getD_getElem?,Array.getElem?_eq_getElem h1,List.getD_eq_getElem?_getD,Option.getD_some]at this
  rw[List.getElem?_eq_getElem (by omega)]at this
  simpa using this
def akH:fc
 | [.one (.d (.str s)),.one (.d (.int .u8 c))],[]=>some { v:=.one (.d (.int .i64 (Lib.indexByte s c.toNat.toUInt8))),boxes:=[] }
 |_,_=>none
theorem akI:fO Tryz.prog 194 akH:=by
 intro args boxes r hF w vals β ω Z hsz hok iD hent
 unfold akH at hF
 split at hF
 ·rename_i s c
  cases hF
  have hv:vals= #[.string ⟨s.toArray⟩,.int .u8 c]:=qy (l:=[.string ⟨s.toArray⟩,.int .u8 c]) hsz fun i hi=>by
   match i,hi with
   |0,_=>exact(hent.args 0).2
   |1,_=>exact(hent.args 1).2
  subst hv
  refine .inr ⟨.int .i64 (Lib.indexByte s c.toNat.toUInt8),w,_,_,Z,?_,akF hent hok rfl rfl rfl (Nat.le_refl _) (fun _ _ _=>rfl) (K₀:=cR Tryz.prog 0 w #[] β ω Z) (β₀:=β) (Z₀:=Z) (s₀:=dI [] []) (a₀:={ tmps:= #[],defers:=[] }) (w₀:=w) ⟨rfl,rfl⟩ rfl rfl rfl⟩
  rw[run_callFunc_extern Tryz.func194 (by kernel_rfl) (by kernel_rfl) (by kernel_rfl) (e:=Extern.BytealgIndexByte.indexByte) (by kernel_rfl)]
  rw[Lib.run_indexByteString]
  rfl
 ·cases hF
def A0:FuncId→fc:=fun g=>match Nat.beq g 28 with
 |true=>ya
 |false=>match Nat.beq g 194 with
  |true=>akH
  |false=>fun _ _=>none
theorem aDY (g:FuncId):fO Tryz.prog g (A0 g):=by
 unfold A0
 split
 ·rename_i h;rw[Nat.eq_of_beq_eq_true h];exact atx
 ·split
  ·rename_i h;rw[Nat.eq_of_beq_eq_true h];exact akI
  ·exact fun args boxes r hr=>by cases hr
end Go.Proofs.YtmoineigflegeaaGreatDoor.vx
namespace Go.Proofs.YtmoineigflegeaaGreatDoor.vd
open Go Go.Vs Go.Ve Go.Fp Go.Proofs.Tryz
def S28:aF:={ args:=[.row (.pair (.int .i64) (.sl (.pair .bool (.pair .str .str))))],res:=[.one .s] }
theorem aty:∀l:List (Bool×List UInt8×List UInt8),vx.uV (l.map (aA (.pair .bool (.pair .str .str))))=some l
 | []=>rfl
 |(u,k,g) :: l=>by
  have:=aty l
  show(match vx.uV (l.map (aA (.pair .bool (.pair .str .str))))with|some l=>some ((u,k,g) :: l)|none=>none)=_
  rw[this]
theorem aDZ:fO prog 28 (S28.F xJ):=by
 intro args boxes r h
 unfold aF.F at h
 split at h
 ·rename_i z hz
  obtain⟨n,o⟩:=z
  obtain⟨h1,h2⟩:=aF.hO S28 (by kernel_rfl) hz
  subst h1 h2
  cases o with
  |none=>cases h
  |some l=>
   cases l with
   |nil=>cases h
   |cons p l=>
    have hb:=h
    simp only[xJ]at hb
    split at hb
    ·rename_i y hy
     split at hy
     ·rename_i hc
      cases hy
      cases hb
      rw[Bool.and_eq_true]at hc
      refine vx.atx _ _ _ ?_
      show vx.ya [.agg [.d (.int .i64 n),.d (.sl 3 ((p :: l).map (aA (.pair .bool (.pair .str .str)))))]] []=_
      have:=aty (p :: l)
      simp only[List.map_cons]at this ⊢
      simp only[vx.ya,this,vx.x9,hc.1,hc.2]
      rfl
     ·cases hy
    ·cases hb
 ·cases h
def C28:aV:=S28.az (by kernel_rfl) xJ
theorem G28:bq prog (28,C28):=aDZ
def atz:aZ:={ cfg:={ N:=6,T:=T,R:=R,az:=fun _ f=>bA f [],var:=[0,1,2],res:=[2],eqs:=EQ,dat:=[1,2],bK:=true },keys:=[0,2],aQ:=[.loc 5] }
def akL:aF:={ args:=[.one .s],boxes:=[],res:=[.ptr (.inb 0) 0],bf:=[[some .s,some (.i .i64),some (.n .own (.pair .bool (.pair .str .str)))]],aB:=[] }
def atA:Nat→Option aX:=fun _=>none
set_option maxRecDepth 100000 in
theorem aD1:∀x,bF atz atA f106 akL x=(fun x=>aa2 x) x:=by
 intro x
 kernel_rfl
theorem aD2:bh prog 106 (akL.F (fun x=>aa2 x)):=bG (F:=atz) (tbl:=atA) func106 (by kernel_rfl) mix (bH (l:=[]) (bE rfl rfl) rfl (by simp)) (by kernel_rfl) (by kernel_rfl) (by decide) (fun _=>by kernel_rfl) aD1
def akM:aV:=akL.az (by kernel_rfl) (fun x=>aa2 x)
theorem aD3:bq prog (106,akM):=bI func106 (by kernel_rfl) (by kernel_rfl) aD2
def uW:aF:={ args:=[.one .s,.one (.i .u8)],res:=[.one (.i .i64)] }
theorem akN:fO prog 194 (uW.F fun x=>uF x.1 x.2):=by
 intro args boxes r h
 unfold aF.F at h
 split at h
 ·rename_i z hz
  obtain⟨s,c⟩:=z
  obtain⟨h1,h2⟩:=aF.hO uW (by kernel_rfl) hz
  subst h1 h2
  cases h
  exact vx.akI _ _ _ rfl
 ·cases h
def uX:aV:=uW.az (by kernel_rfl) (fun x=>uF x.1 x.2)
theorem akO:bq prog (194,uX):=akN
def abF:aZ:={ cfg:={ N:=8,T:=T,R:=R,az:=fun _ f=>bA f [(194,uX)],var:=[0,1,2,3,4],res:=[4],eqs:=EQ,dat:=[2,3,4],bK:=true },keys:=[0,1,4],aQ:=[] }
def uY:aF:={ args:=[.one .s,.one (.i .u8)],boxes:=[],res:=[.one (.i .i64)],bf:=[],aB:=[] }
def abG:Nat→Option aX:=fun _=>none
set_option maxRecDepth 100000 in
theorem akP:∀x,bF abF abG f167 uY x=(fun x=>pT x.1 x.2) x:=by
 intro x
 kernel_rfl
theorem akQ:bh prog 167 (uY.F (fun x=>pT x.1 x.2)):=bG (F:=abF) (tbl:=abG) func167 (by kernel_rfl) mix (bH (l:=[(194,uX)]) (bE rfl rfl) rfl (List.forall_mem_cons.2 ⟨akO,by simp⟩)) (by kernel_rfl) (by kernel_rfl) (by decide) (fun _=>by kernel_rfl) akP
def sj:aV:=uY.az (by kernel_rfl) (fun x=>pT x.1 x.2)
theorem afJ:bq prog (167,sj):=bI func167 (by kernel_rfl) (by kernel_rfl) akQ
def abH:aZ:={ cfg:={ N:=8,T:=T,R:=R,az:=fun _ f=>bA f [(167,sj)],var:=[0,1,2,3,4],res:=[4],eqs:=EQ,dat:=[2,3,4],bK:=true },keys:=[0,1,4],aQ:=[] }
def uZ:aF:={ args:=[.one .s,.one (.i .u8)],boxes:=[],res:=[.one (.i .i64)],bf:=[],aB:=[] }
def abI:Nat→Option aX:=fun _=>none
set_option maxRecDepth 100000 in
theorem akR:∀x,bF abH abI f165 uZ x=(fun x=>j4 x.1 x.2) x:=by
 intro x
 kernel_rfl
theorem akS:bh prog 165 (uZ.F (fun x=>j4 x.1 x.2)):=bG (F:=abH) (tbl:=abI) func165 (by kernel_rfl) mix (bH (l:=[(167,sj)]) (bE rfl rfl) rfl (List.forall_mem_cons.2 ⟨afJ,by simp⟩)) (by kernel_rfl) (by kernel_rfl) (by decide) (fun _=>by kernel_rfl) akR
def oD:aV:=uZ.az (by kernel_rfl) (fun x=>j4 x.1 x.2)
theorem abJ:bq prog (165,oD):=bI func165 (by kernel_rfl) (by kernel_rfl) akS
def abK:aZ:={ cfg:={ N:=81,T:=T,R:=R,az:=fun _ f=>bA f [(165,oD)],var:=[0,1,2,3,4,5,6],res:=[4,5,6],eqs:=EQ,dat:=[2,3,4,5,6],bK:=true },keys:=[0,1,4,5,6,17,23,27,41,47,60],aQ:=[] }
def u5:aF:={ args:=[.one .s,.one (.i .i64)],boxes:=[],res:=[.one (.i .i64),.one .b,.one .b],bf:=[],aB:=[] }
def abL:Nat→Option aX:=fun n=>match n with
 |0=>some { head:={ live:=[0,4,5],aO:=[],vs:=[.slot 4 (.i .i64)] },bT:=[(.exit 0,{ live:=[0,4,5],aO:=[],vs:=[.slot 4 (.i .i64)] })] }
 |1=>some { head:={ live:=[0,4,5],aO:=[],vs:=[.slot 4 (.i .i64)] },bT:=[(.exit 2,{ live:=[0,4,5],aO:=[],vs:=[.slot 4 (.i .i64)] })] }
 |_=>none
set_option maxRecDepth 100000 in
theorem akT:∀x,bF abK abL f145 u5 x=(fun x=>mc x.1 x.2) x:=by
 intro x
 kernel_rfl
theorem akU:bh prog 145 (u5.F (fun x=>mc x.1 x.2)):=bG (F:=abK) (tbl:=abL) func145 (by kernel_rfl) mix (bH (l:=[(165,oD)]) (bE rfl rfl) rfl (List.forall_mem_cons.2 ⟨abJ,by simp⟩)) (by kernel_rfl) (by kernel_rfl) (by decide) (fun _=>by kernel_rfl) akT
def yb:aV:=u5.az (by kernel_rfl) (fun x=>mc x.1 x.2)
theorem akV:bq prog (145,yb):=bI func145 (by kernel_rfl) (by kernel_rfl) akU
def atB:aZ:={ cfg:={ N:=32,T:=T,R:=R,az:=fun _ f=>bA f [],var:=[0,1,2,3,4,5,6,7],res:=[],eqs:=EQ,dat:=[4,5,6,7],bK:=true },keys:=[0,1,2,3,15],aQ:=[.inb 0,.inb 1] }
def akW:aF:={ args:=[.ptr (.inb 0) 0,.one (.i .i64),.one (.i .i64),.one (.i .i64)],boxes:=[.cells [.s,.p (.inb 1) 0,.i .i64,.i .i64,.i .i64,.i .i64],.cells [.s,.i .i64,.n .own (.pair .bool (.pair .str .str))]],res:=[],bf:=[[none,none,none,some (.i .i64),some (.i .i64),some (.i .i64)],[none,none,none]],aB:=[] }
def atC:Nat→Option aX:=fun _=>none
set_option maxRecDepth 100000 in
theorem aD4:∀x,bF atB atC f146 akW x=(fun x=>aa5 x.1 x.2.1 x.2.2.1 x.2.2.2.1 x.2.2.2.2) x:=by
 intro x
 kernel_rfl
theorem aD5:bh prog 146 (akW.F (fun x=>aa5 x.1 x.2.1 x.2.2.1 x.2.2.2.1 x.2.2.2.2)):=bG (F:=atB) (tbl:=atC) func146 (by kernel_rfl) mix (bH (l:=[]) (bE rfl rfl) rfl (by simp)) (by kernel_rfl) (by kernel_rfl) (by decide) (fun _=>by kernel_rfl) aD4
def akX:aV:=akW.az (by kernel_rfl) (fun x=>aa5 x.1 x.2.1 x.2.2.1 x.2.2.2.1 x.2.2.2.2)
theorem aD6:bq prog (146,akX):=bI func146 (by kernel_rfl) (by kernel_rfl) aD5
def atD:aZ:={ cfg:={ N:=18,T:=T,R:=R,az:=fun _ f=>bA f [],var:=[0,1,2,3,4],res:=[4],eqs:=EQ,dat:=[2,3,4],bK:=true },keys:=[0,1,4],aQ:=[] }
def akY:aF:={ args:=[.one .s,.one .s],boxes:=[],res:=[.one .b],bf:=[],aB:=[] }
def atE:Nat→Option aX:=fun _=>none
set_option maxRecDepth 100000 in
theorem aD7:∀x,bF atD atE f164 akY x=(fun x=>afx x.1 x.2) x:=by
 intro x
 kernel_rfl
theorem aD8:bh prog 164 (akY.F (fun x=>afx x.1 x.2)):=bG (F:=atD) (tbl:=atE) func164 (by kernel_rfl) mix (bH (l:=[]) (bE rfl rfl) rfl (by simp)) (by kernel_rfl) (by kernel_rfl) (by decide) (fun _=>by kernel_rfl) aD7
def akZ:aV:=akY.az (by kernel_rfl) (fun x=>afx x.1 x.2)
theorem aD9:bq prog (164,akZ):=bI func164 (by kernel_rfl) (by kernel_rfl) aD8
def atF:aZ:={ cfg:={ N:=8,T:=T,R:=R,az:=fun _ f=>bA f [(164,akZ)],var:=[0,1,2,3,4],res:=[4],eqs:=EQ,dat:=[2,3,4],bK:=true },keys:=[0,1,4],aQ:=[] }
def ak0:aF:={ args:=[.one .s,.one .s],boxes:=[],res:=[.one .b],bf:=[],aB:=[] }
def atG:Nat→Option aX:=fun _=>none
set_option maxRecDepth 100000 in
theorem aEa:∀x,bF atF atG f138 ak0 x=(fun x=>aa4 x.1 x.2) x:=by
 intro x
 kernel_rfl
theorem aEb:bh prog 138 (ak0.F (fun x=>aa4 x.1 x.2)):=bG (F:=atF) (tbl:=atG) func138 (by kernel_rfl) mix (bH (l:=[(164,akZ)]) (bE rfl rfl) rfl (List.forall_mem_cons.2 ⟨aD9,by simp⟩)) (by kernel_rfl) (by kernel_rfl) (by decide) (fun _=>by kernel_rfl) aEa
def ak1:aV:=ak0.az (by kernel_rfl) (fun x=>aa4 x.1 x.2)
theorem aEc:bq prog (138,ak1):=bI func138 (by kernel_rfl) (by kernel_rfl) aEb
def atH:aZ:={ cfg:={ N:=42,T:=T,R:=R,az:=fun _ f=>bA f [],var:=[0,1,2,3,4,5],res:=[4],eqs:=EQ,dat:=[2,3,4,5],bK:=true },keys:=[0,1,4,5,16,28],aQ:=[.inb 0] }
def ak2:aF:={ args:=[.ptr (.inb 0) 0,.one .b],boxes:=[.cells [.n .own (.pair (.int .i64) (.pair .str (.int .i64))),.n .own (.int .u8),.n .own (.int .i64)]],res:=[.one .b],bf:=[[none,none,none]],aB:=[] }
def atI:Nat→Option aX:=fun _=>none
set_option maxRecDepth 100000 in
theorem aEd:∀x,bF atH atI f199 ak2 x=(fun x=>afw x.1 x.2) x:=by
 intro x
 kernel_rfl
theorem aEe:bh prog 199 (ak2.F (fun x=>afw x.1 x.2)):=bG (F:=atH) (tbl:=atI) func199 (by kernel_rfl) mix (bH (l:=[]) (bE rfl rfl) rfl (by simp)) (by kernel_rfl) (by kernel_rfl) (by decide) (fun _=>by kernel_rfl) aEd
def ak3:aV:=ak2.az (by kernel_rfl) (fun x=>afw x.1 x.2)
theorem aEf:bq prog (199,ak3):=bI func199 (by kernel_rfl) (by kernel_rfl) aEe
def atJ:aZ:={ cfg:={ N:=29,T:=T,R:=R,az:=fun _ f=>bA f [(199,ak3)],var:=[0,1,2,3,4,5,6],res:=[6],eqs:=EQ,dat:=[3,4,5,6],bK:=true },keys:=[0,1,2,6,8],aQ:=[.inb 0] }
def ak4:aF:={ args:=[.ptr (.inb 0) 0,.one (.i .u8),.one (.i .i64)],boxes:=[.cells [.n .own (.pair (.int .i64) (.pair .str (.int .i64))),.n .own (.int .u8),.n .own (.int .i64)]],res:=[.one .b],bf:=[[some (.n .own (.pair (.int .i64) (.pair .str (.int .i64)))),some (.n .own (.int .u8)),some (.n .own (.int .i64))]],aB:=[] }
def atK:Nat→Option aX:=fun _=>none
set_option maxRecDepth 100000 in
theorem aEg:∀x,bF atJ atK f179 ak4 x=(fun x=>xL x.1 x.2.1 x.2.2) x:=by
 intro x
 kernel_rfl
theorem aEh:bh prog 179 (ak4.F (fun x=>xL x.1 x.2.1 x.2.2)):=bG (F:=atJ) (tbl:=atK) func179 (by kernel_rfl) mix (bH (l:=[(199,ak3)]) (bE rfl rfl) rfl (List.forall_mem_cons.2 ⟨aEf,by simp⟩)) (by kernel_rfl) (by kernel_rfl) (by decide) (fun _=>by kernel_rfl) aEg
def ak5:aV:=ak4.az (by kernel_rfl) (fun x=>xL x.1 x.2.1 x.2.2)
theorem aEi:bq prog (179,ak5):=bI func179 (by kernel_rfl) (by kernel_rfl) aEh
def atL:aZ:={ cfg:={ N:=72,T:=T,R:=R,az:=fun _ f=>bA f [(138,ak1),(179,ak5),(165,oD)],var:=[0,1,2,3,4,5,6,7,8,9,10,11,22,36,41],res:=[6,7],eqs:=EQ,dat:=[3,4,5,6,7,8,9,10,11,22,36,41],bK:=true },keys:=[0,1,2,6,7,8,9,10,11,22,36,41,55,69],aQ:=[.inb 0] }
def ak6:aF:={ args:=[.ptr (.inb 0) 0,.one .s,.one (.i .i64)],boxes:=[.cells [.n .own (.pair (.int .i64) (.pair .str (.int .i64))),.n .own (.int .u8),.n .own (.int .i64)]],res:=[.one (.i .i64),.one (.i .i64)],bf:=[[some (.n .own (.pair (.int .i64) (.pair .str (.int .i64)))),some (.n .own (.int .u8)),some (.n .own (.int .i64))]],aB:=[] }
def atM:Nat→Option aX:=fun _=>none
set_option maxRecDepth 100000 in
theorem aEj:∀x,bF atL atM f151 ak6 x=(fun x=>afy x.1 x.2.1 x.2.2) x:=by
 intro x
 kernel_rfl
theorem aEk:bh prog 151 (ak6.F (fun x=>afy x.1 x.2.1 x.2.2)):=bG (F:=atL) (tbl:=atM) func151 (by kernel_rfl) mix (bH (l:=[(138,ak1),(179,ak5),(165,oD)]) (bE rfl rfl) rfl (List.forall_mem_cons.2 ⟨aEc,List.forall_mem_cons.2 ⟨aEi,List.forall_mem_cons.2 ⟨abJ,by simp⟩⟩⟩)) (by kernel_rfl) (by kernel_rfl) (by decide) (fun _=>by kernel_rfl) aEj
def ak7:aV:=ak6.az (by kernel_rfl) (fun x=>afy x.1 x.2.1 x.2.2)
theorem aEl:bq prog (151,ak7):=bI func151 (by kernel_rfl) (by kernel_rfl) aEk
def atN:aZ:={ cfg:={ N:=28,T:=T,R:=R,az:=fun _ f=>bA f [(151,ak7)],var:=[0,1,2,3,4,5,6,7,8],res:=[2,3,4],eqs:=EQ,dat:=[1,2,3,4,5,6,7,8],bK:=true },keys:=[0,2,3,4,5,6,7,8,14,23],aQ:=[.loc 10] }
def ak8:aF:={ args:=[.one .s],boxes:=[],res:=[.ptr (.inb 0) 0,.one (.i .i64),.one (.i .i64)],bf:=[[some (.n .own (.pair (.int .i64) (.pair .str (.int .i64)))),some (.n .own (.int .u8)),some (.n .own (.int .i64))]],aB:=[],opt:=true }
def atO:Nat→Option aX:=fun n=>match n with
 |0=>some { head:={ live:=[0,5,6],aO:=[(.loc 10)],vs:=[.slot 6 (.i .i64),.cell (.loc 10) 0 (.n .own (.pair (.int .i64) (.pair .str (.int .i64)))),.cell (.loc 10) 1 (.n .own (.int .u8)),.cell (.loc 10) 2 (.n .own (.int .i64))] },bT:=[(.ret,{ live:=[2,3,4],aO:=[],vs:=[.slot 2 (.u .ptr),.slot 3 (.i .i64),.slot 4 (.i .i64)] }),(.exit 0,{ live:=[5],aO:=[(.loc 10)],vs:=[.cell (.loc 10) 0 (.n .own (.pair (.int .i64) (.pair .str (.int .i64)))),.cell (.loc 10) 1 (.n .own (.int .u8)),.cell (.loc 10) 2 (.n .own (.int .i64))] })] }
 |_=>none
set_option maxRecDepth 100000 in
theorem aEm:∀x,bF atN atO f119 ak8 x=(fun x=>afz x) x:=by
 intro x
 kernel_rfl
theorem aEn:bh prog 119 (ak8.F (fun x=>afz x)):=bG (F:=atN) (tbl:=atO) func119 (by kernel_rfl) mix (bH (l:=[(151,ak7)]) (bE rfl rfl) rfl (List.forall_mem_cons.2 ⟨aEl,by simp⟩)) (by kernel_rfl) (by kernel_rfl) (by decide) (fun _=>by kernel_rfl) aEm
def ak9:aV:=ak8.az (by kernel_rfl) (fun x=>afz x)
theorem aEo:bq prog (119,ak9):=bI func119 (by kernel_rfl) (by kernel_rfl) aEn
def atP:aZ:={ cfg:={ N:=26,T:=T,R:=R,az:=fun _ f=>bA f [],var:=[0,1],res:=[],eqs:=EQ,dat:=[1],bK:=true },keys:=[0,7],aQ:=[.inb 0] }
def ala:aF:={ args:=[.ptr (.inb 0) 0],boxes:=[.cells [.n .own (.pair (.int .i64) (.pair .str (.int .i64))),.n .own (.int .u8),.n .own (.int .i64)]],res:=[],bf:=[[some (.n .own (.pair (.int .i64) (.pair .str (.int .i64)))),some (.n .own (.int .u8)),some (.n .own (.int .i64))]],aB:=[] }
def atQ:Nat→Option aX:=fun _=>none
set_option maxRecDepth 100000 in
theorem aEp:∀x,bF atP atQ f149 ala x=(fun x=>afu x) x:=by
 intro x
 kernel_rfl
theorem aEq:bh prog 149 (ala.F (fun x=>afu x)):=bG (F:=atP) (tbl:=atQ) func149 (by kernel_rfl) mix (bH (l:=[]) (bE rfl rfl) rfl (by simp)) (by kernel_rfl) (by kernel_rfl) (by decide) (fun _=>by kernel_rfl) aEp
def alb:aV:=ala.az (by kernel_rfl) (fun x=>afu x)
theorem aEr:bq prog (149,alb):=bI func149 (by kernel_rfl) (by kernel_rfl) aEq
def atS:aZ:={ cfg:={ N:=9,T:=T,R:=R,az:=fun _ f=>bA f [(149,alb)],var:=[0,1,2],res:=[2],eqs:=EQ,dat:=[1,2],bK:=true },keys:=[0,2],aQ:=[.inb 0] }
def alc:aF:={ args:=[.ptr (.inb 0) 0],boxes:=[.cells [.n .own (.pair (.int .i64) (.pair .str (.int .i64))),.n .own (.int .u8),.n .own (.int .i64)]],res:=[.one (.n .data (.pair (.int .i64) (.pair .str (.int .i64))))],bf:=[[some (.n .data (.pair (.int .i64) (.pair .str (.int .i64)))),some (.n .own (.int .u8)),some (.n .own (.int .i64))]],aB:=[] }
def atT:Nat→Option aX:=fun _=>none
set_option maxRecDepth 100000 in
theorem aEs:∀x,bF atS atT f117 alc x=(fun x=>afv x) x:=by
 intro x
 kernel_rfl
theorem aEt:bh prog 117 (alc.F (fun x=>afv x)):=bG (F:=atS) (tbl:=atT) func117 (by kernel_rfl) mix (bH (l:=[(149,alb)]) (bE rfl rfl) rfl (List.forall_mem_cons.2 ⟨aEr,by simp⟩)) (by kernel_rfl) (by kernel_rfl) (by decide) (fun _=>by kernel_rfl) aEs
def ald:aV:=alc.az (by kernel_rfl) (fun x=>afv x)
theorem aEu:bq prog (117,ald):=bI func117 (by kernel_rfl) (by kernel_rfl) aEt
def F86:aZ:={ cfg:={ N:=18,T:=T,R:=R,az:=fun _ f=>bA f [(119,ak9),(117,ald)],var:=[0,1,2,3,4,5],res:=[2,3,4],eqs:=EQ,dat:=[1,2,3,4,5],bK:=true },keys:=[0,2,3,4,5,13],aQ:=[.esc 8 0] }
def S86:aF:={ args:=[.one .s],boxes:=[],res:=[.one (.n .data (.pair (.int .i64) (.pair .str (.int .i64)))),.one (.i .i64),.one (.i .i64)],bf:=[],aB:=[] }
def L86:Nat→Option aX:=fun _=>none
set_option maxRecDepth 100000 in
theorem aEv:∀x,bF F86 L86 f86 S86 x=(fun x=>xM x) x:=by
 intro x
 kernel_rfl
theorem aEw:bh prog 86 (S86.F (fun x=>xM x)):=bG (F:=F86) (tbl:=L86) func86 (by kernel_rfl) mix (bH (l:=[(119,ak9),(117,ald)]) (bE rfl rfl) rfl (List.forall_mem_cons.2 ⟨aEo,List.forall_mem_cons.2 ⟨aEu,by simp⟩⟩)) (by kernel_rfl) (by kernel_rfl) (by decide) (fun _=>by kernel_rfl) aEv
def C86:aV:=S86.az (by kernel_rfl) (fun x=>xM x)
theorem G86:bq prog (86,C86):=bI func86 (by kernel_rfl) (by kernel_rfl) aEw
end Go.Proofs.YtmoineigflegeaaGreatDoor.vd
namespace Go.Proofs
open Go.Shelf
def Tryz.aEx:Go.Shelf.Ren:=⟨fun|171=>97|243=>134|246=>163|283=>189|284=>190|285=>191|286=>192|129=>210|317=>214|318=>215|319=>216|320=>217|337=>229|338=>230|n=>n,fun|3=>3|9=>9|2=>2|4=>4|171=>252|0=>0|53=>253|37=>122|5=>5|173=>256|212=>289|51=>258|20=>20|213=>290|46=>211|232=>91|233=>321|n=>n,fun|17=>1|18=>4|19=>5|n=>n⟩
theorem Tryz.aEy:Go.Proofs.LaysM.n171 Tryz.prog Tryz.aEx:={
 mixed:=by kernel_rfl
 f129:=Tryz.func210.trans (congrArg some (by kernel_rfl))
 f171:=Tryz.func97.trans (congrArg some (by kernel_rfl))
 f243:=Tryz.func134.trans (congrArg some (by kernel_rfl))
 f246:=Tryz.func163.trans (congrArg some (by kernel_rfl))
 f283:=Tryz.func189.trans (congrArg some (by kernel_rfl))
 f284:=Tryz.func190.trans (congrArg some (by kernel_rfl))
 f285:=Tryz.func191.trans (congrArg some (by kernel_rfl))
 f286:=Tryz.func192.trans (congrArg some (by kernel_rfl))
 f317:=Tryz.func214.trans (congrArg some (by kernel_rfl))
 f318:=Tryz.func215.trans (congrArg some (by kernel_rfl))
 f319:=Tryz.func216.trans (congrArg some (by kernel_rfl))
 f320:=Tryz.func217.trans (congrArg some (by kernel_rfl))
 f337:=Tryz.func229.trans (congrArg some (by kernel_rfl))
 f338:=Tryz.func230.trans (congrArg some (by kernel_rfl))
 t0:=Tryz.underlying0
 a0:=Tryz.isAgg0
 z0:=Tryz.sizeOf0
 v0:=Tryz.zeroValue0
 t2:=Tryz.underlying2
 a2:=Tryz.isAgg2
 z2:=Tryz.sizeOf2
 v2:=Tryz.zeroValue2
 t3:=Tryz.underlying3
 a3:=Tryz.isAgg3
 z3:=Tryz.sizeOf3
 v3:=Tryz.zeroValue3
 t4:=Tryz.underlying4
 a4:=Tryz.isAgg4
 z4:=Tryz.sizeOf4
 v4:=Tryz.zeroValue4
 t5:=Tryz.underlying5
 a5:=Tryz.isAgg5
 z5:=Tryz.sizeOf5
 v5:=Tryz.zeroValue5
 t9:=Tryz.underlying9
 a9:=Tryz.isAgg9
 z9:=Tryz.sizeOf9
 v9:=Tryz.zeroValue9
 t20:=Tryz.underlying20
 a20:=Tryz.isAgg20
 z20:=Tryz.sizeOf20
 v20:=Tryz.zeroValue20
 t37:=Tryz.underlying122
 a37:=Tryz.isAgg122
 z37:=Tryz.sizeOf122
 v37:=Tryz.zeroValue122
 t46:=Tryz.underlying211
 a46:=Tryz.isAgg211
 z46:=Tryz.sizeOf211
 v46:=Tryz.zeroValue211
 t51:=Tryz.underlying258
 a51:=Tryz.isAgg258
 z51:=Tryz.sizeOf258
 v51:=Tryz.zeroValue258
 t53:=Tryz.underlying253
 a53:=Tryz.isAgg253
 z53:=Tryz.sizeOf253
 v53:=Tryz.zeroValue253
 t171:=Tryz.underlying252
 a171:=Tryz.isAgg252
 z171:=Tryz.sizeOf252
 v171:=Tryz.zeroValue252
 t173:=Tryz.underlying256
 a173:=Tryz.isAgg256
 z173:=Tryz.sizeOf256
 v173:=Tryz.zeroValue256
 t212:=Tryz.underlying289
 a212:=Tryz.isAgg289
 z212:=Tryz.sizeOf289
 v212:=Tryz.zeroValue289
 t213:=Tryz.underlying290
 a213:=Tryz.isAgg290
 z213:=Tryz.sizeOf290
 t232:=Tryz.underlying91
 a232:=Tryz.isAgg91
 z232:=Tryz.sizeOf91
 v232:=Tryz.zeroValue91
 t233:=Tryz.underlying321
 a233:=Tryz.isAgg321
 z233:=Tryz.sizeOf321
 v233:=Tryz.zeroValue321
 g17:=by kernel_rfl
 g18:=by kernel_rfl
 g19:=by kernel_rfl
 i0:=by kernel_rfl
 i2:=by kernel_rfl
 i3:=by kernel_rfl
 i4:=by kernel_rfl
 i5:=by kernel_rfl
 i9:=by kernel_rfl
 i20:=by kernel_rfl
 i37:=by kernel_rfl
 i46:=by kernel_rfl
 i51:=by kernel_rfl
 i53:=by kernel_rfl
 i171:=by kernel_rfl
 i173:=by kernel_rfl
 i212:=by kernel_rfl
 i232:=by kernel_rfl
 i233:=by kernel_rfl
 m17:=by kernel_rfl
 m18:=by kernel_rfl
 m19:=by kernel_rfl }
open Go.RowKit Go.Sort Go.Lib in
theorem Tryz.strconv_Itoa (n:Int) (h0: -9223372036854775808≤n) (h1:n≤9223372036854775807) (w:World) (htab:Lib.TabIs Tryz.prog w "internal/strconv.uint64pow10" .u64 Lib.pow10Tab):
 Calls Tryz.prog 97 #[.int .i64 n] w fun e w'=>e= .returned (.string ⟨(Lib.itoa n).toArray⟩)∧∃k os,w'=grow (w.drewN k) os:=Any.strconv_Itoa Tryz.aEy n h0 h1 w htab
end Go.Proofs
namespace Go.Proofs.YtmoineigflegeaaGreatDoor.vd
open Go Go.Vs Go.Ve Go.Fp Go.Proofs.Tryz
theorem aEz {P:Program} {w:World} {name:String} {g:Nat} {l:List Value} (hg:P.globalNamed name=some g) (h:mq w g l) (hl:0<l.length):w.var? P name=some l.toArray:=by
 have h0:=h.get (List.getElem?_eq_getElem hl)
 simp only[World.cell?]at h0
 simp only[World.var?,hg,Option.bind_some]
 cases hh:w.heap[g]? with
 |none=>rw[hh]at h0;cases h0
 |some o=>
  cases o with
  |cells cs t f=>
   simp only[Option.some.injEq]
   apply Array.ext_getElem?
   intro i
   have:=h i
   simp only[World.cell?,hh]at this
   simpa using this
  |_=>rw[hh]at h0;cases h0
def sk:aF:={ args:=[.one (.i .i64)],res:=[.one .s] }
set_option maxRecDepth 100000 in
theorem aEA {w:World} {K:Ctx} {β:Key→Option Nat} {ω:Nat→Option bX} {Z:Nat→Prop} {s:St} {a:Act} (hK:K.P=prog) (h:Rel K β ω Z s a w):Lib.TabIs prog w "internal/strconv.uint64pow10" .u64 Lib.pow10Tab:=by
 have hm:=afE.1
 obtain⟨_,_,_,q⟩:=h.laid _ _ (by rw[hK];exact hm)
 exact aEz (by kernel_rfl) q (by decide)
theorem aEB {n:Int} {y:List UInt8} (h:Fp.strconv_Itoa n=some y): -9223372036854775808≤n∧n≤9223372036854775807∧y=Lib.itoa n:=by
 unfold Fp.strconv_Itoa at h
 split at h
 ·rename_i hc
  cases h
  rw[Bool.and_eq_true,decide_eq_true_eq,decide_eq_true_eq]at hc
  exact⟨hc.1,hc.2,rfl⟩
 ·cases h
theorem aEC:bh prog 97 (sk.F Fp.strconv_Itoa):=by
 intro args boxes r hF w vals β ω Z hsz hok iD hent
 unfold aF.F at hF
 split at hF
 ·rename_i n hn
  obtain⟨h1,h2⟩:=aF.hO sk (by kernel_rfl) hn
  subst h1 h2
  split at hF
  ·rename_i y hy
   cases hF
   obtain⟨cF,y7,rfl⟩:=aEB hy
   ·skip
    have hv:vals= #[.int .i64 n]:=vx.qy (l:=[.int .i64 n]) hsz fun i hi=>by
     match i,hi with
     |0,_=>exact(hent.args 0).2
    subst hv
    refine(Tryz.strconv_Itoa n cF y7 w (aEA rfl hent)).mono ?_
    rintro e w' ⟨rfl,k,os,rfl⟩
    refine⟨_,_,_,_,rfl,akF hent hok rfl rfl rfl ?_ (fun b hb' _=>?_) (K₀:=cR prog 0 w #[] β ω Z) (β₀:=β) (Z₀:=Z) (s₀:=dI [] []) (a₀:={ tmps:= #[],defers:=[] }) (w₀:=w) ⟨rfl,rfl⟩ rfl rfl rfl⟩
    ·show w.heap.size≤(w.heap++os).size
     simp
    ·show(w.heap++os)[b]? =w.heap[b]?
     exact Array.getElem?_append_left hb'
  ·cases hF
 ·cases hF
theorem aED:fO prog 97 (sk.F Fp.strconv_Itoa):=adC Tryz.func97 (by kernel_rfl) rfl aEC
def yc:aV:=sk.az (by kernel_rfl) Fp.strconv_Itoa
theorem G97:bq prog (97,yc):=aED
def atX:aZ:={ cfg:={ N:=41,T:=T,R:=R,az:=fun _ f=>bA f [],var:=[0,1,2,3,4,5,6,7],res:=[],eqs:=EQ,dat:=[4,5,6,7],bK:=true },keys:=[0,1,2,3],aQ:=[.inb 0] }
def alg:aF:={ args:=[.ptr (.inb 0) 0,.one (.i .i64),.one (.i .i64),.one .s],boxes:=[.cells [.s,.i .i64,.n .own (.pair .bool (.pair .str .str))]],res:=[],bf:=[[some .s,some (.i .i64),some (.n .own (.pair .bool (.pair .str .str)))]],aB:=[] }
def atY:Nat→Option aX:=fun _=>none
set_option maxRecDepth 100000 in
theorem aEE:∀x,bF atX atY f109 alg x=(fun x=>xK x.1 x.2.1 x.2.2.1 x.2.2.2) x:=by
 intro x
 kernel_rfl
theorem aEF:bh prog 109 (alg.F (fun x=>xK x.1 x.2.1 x.2.2.1 x.2.2.2)):=bG (F:=atX) (tbl:=atY) func109 (by kernel_rfl) mix (bH (l:=[]) (bE rfl rfl) rfl (by simp)) (by kernel_rfl) (by kernel_rfl) (by decide) (fun _=>by kernel_rfl) aEE
def alh:aV:=alg.az (by kernel_rfl) (fun x=>xK x.1 x.2.1 x.2.2.1 x.2.2.2)
theorem aEG:bq prog (109,alh):=bI func109 (by kernel_rfl) (by kernel_rfl) aEF
def atZ:aZ:={ cfg:={ N:=75,T:=T,R:=R,az:=fun _ f=>bA f [(86,C86),(97,yc),(109,alh)],var:=[0,1,2,3,4,5,6,7,8,9,10,11,12,13,14],res:=[10,11],eqs:=EQ,dat:=[5,6,7,8,9,10,11,12,13,14],bK:=true },keys:=[0,1,2,3,4,10,11,13,14,32,39,55],aQ:=[.inb 0,.inb 1] }
def ali:aF:={ args:=[.ptr (.inb 0) 0,.one (.i .i64),.one (.i .i64),.one (.i .i64),.one .b],boxes:=[.cells [.s,.p (.inb 1) 0,.i .i64,.i .i64,.i .i64,.i .i64],.cells [.s,.i .i64,.n .own (.pair .bool (.pair .str .str))]],res:=[.one (.i .i64),.one (.i .i64)],bf:=[[none,none,none,none,none,none],[some .s,some (.i .i64),some (.n .own (.pair .bool (.pair .str .str)))]],aB:=[] }
def at0:Nat→Option aX:=fun _=>none
set_option maxRecDepth 100000 in
theorem aEH:∀x,bF atZ at0 f147 ali x=(fun x=>xN x.1 x.2.1 x.2.2.1 x.2.2.2.1 x.2.2.2.2.1 x.2.2.2.2.2) x:=by
 intro x
 kernel_rfl
theorem aEI:bh prog 147 (ali.F (fun x=>xN x.1 x.2.1 x.2.2.1 x.2.2.2.1 x.2.2.2.2.1 x.2.2.2.2.2)):=bG (F:=atZ) (tbl:=at0) func147 (by kernel_rfl) mix (bH (l:=[(86,C86),(97,yc),(109,alh)]) (bE rfl rfl) rfl (List.forall_mem_cons.2 ⟨G86,List.forall_mem_cons.2 ⟨G97,List.forall_mem_cons.2 ⟨aEG,by simp⟩⟩⟩)) (by kernel_rfl) (by kernel_rfl) (by decide) (fun _=>by kernel_rfl) aEH
def alj:aV:=ali.az (by kernel_rfl) (fun x=>xN x.1 x.2.1 x.2.2.1 x.2.2.2.1 x.2.2.2.2.1 x.2.2.2.2.2)
theorem aEJ:bq prog (147,alj):=bI func147 (by kernel_rfl) (by kernel_rfl) aEI
def at1:aZ:={ cfg:={ N:=121,T:=T,R:=R,az:=fun _ f=>bA f [(145,yb),(146,akX),(147,alj)],var:=[0,1,2,3,4,5,6,7,8,9,10,11,12,71,87,100],res:=[4,5],eqs:=EQ,dat:=[2,3,4,5,6,7,8,9,10,11,12,71,87,100],bK:=true },keys:=[0,1,4,5,6,7,8,9,10,11,12,27,33,49,68,71,87,100],aQ:=[.inb 0,.inb 1] }
def alk:aF:={ args:=[.ptr (.inb 0) 0,.one (.i .i64)],boxes:=[.cells [.s,.p (.inb 1) 0,.i .i64,.i .i64,.i .i64,.i .i64],.cells [.s,.i .i64,.n .own (.pair .bool (.pair .str .str))]],res:=[.one (.i .i64),.one (.i .i64)],bf:=[[none,none,none,some (.i .i64),some (.i .i64),some (.i .i64)],[some .s,some (.i .i64),some (.n .own (.pair .bool (.pair .str .str)))]],aB:=[] }
def at2:Nat→Option aX:=fun n=>match n with
 |0=>some { head:={ live:=[0,1,6,7],aO:=[(.inb 0),(.inb 1)],vs:=[.slot 6 (.i .i64),.slot 7 (.i .i64),.cell (.inb 0) 3 (.i .i64),.cell (.inb 0) 4 (.i .i64),.cell (.inb 0) 5 (.i .i64),.cell (.inb 1) 0 .s,.cell (.inb 1) 1 (.i .i64),.cell (.inb 1) 2 (.n .own (.pair .bool (.pair .str .str)))] },bT:=[(.ret,{ live:=[4,5],aO:=[(.inb 0),(.inb 1)],vs:=[.slot 4 (.i .i64),.slot 5 (.i .i64),.cell (.inb 0) 3 (.i .i64),.cell (.inb 0) 4 (.i .i64),.cell (.inb 0) 5 (.i .i64),.cell (.inb 1) 0 .s,.cell (.inb 1) 1 (.i .i64),.cell (.inb 1) 2 (.n .own (.pair .bool (.pair .str .str)))] }),(.exit 0,{ live:=[0,1,6,7],aO:=[(.inb 0),(.inb 1)],vs:=[.slot 6 (.i .i64),.slot 7 (.i .i64),.cell (.inb 0) 3 (.i .i64),.cell (.inb 0) 4 (.i .i64),.cell (.inb 0) 5 (.i .i64),.cell (.inb 1) 0 .s,.cell (.inb 1) 1 (.i .i64),.cell (.inb 1) 2 (.n .own (.pair .bool (.pair .str .str)))] })] }
 |_=>none
set_option maxRecDepth 100000 in
theorem aEK:∀x,bF at1 at2 f114 alk x=(fun x=>rT x.1 x.2.1 x.2.2) x:=by
 intro x
 kernel_rfl
theorem aEL:bh prog 114 (alk.F (fun x=>rT x.1 x.2.1 x.2.2)):=bG (F:=at1) (tbl:=at2) func114 (by kernel_rfl) mix (bH (l:=[(145,yb),(146,akX),(147,alj)]) (bE rfl rfl) rfl (List.forall_mem_cons.2 ⟨akV,List.forall_mem_cons.2 ⟨aD6,List.forall_mem_cons.2 ⟨aEJ,by simp⟩⟩⟩)) (by kernel_rfl) (by kernel_rfl) (by decide) (fun _=>by kernel_rfl) aEK
def alm:aV:=alk.az (by kernel_rfl) (fun x=>rT x.1 x.2.1 x.2.2)
theorem aEM:bq prog (114,alm):=bI func114 (by kernel_rfl) (by kernel_rfl) aEL
def at3:aZ:={ cfg:={ N:=19,T:=T,R:=R,az:=fun _ f=>bA f [],var:=[0,1,2],res:=[2],eqs:=EQ,dat:=[1,2],bK:=true },keys:=[0,2],aQ:=[.inb 0] }
def aln:aF:={ args:=[.ptr (.inb 0) 0],boxes:=[.cells [.s,.i .i64,.n .own (.pair .bool (.pair .str .str))]],res:=[.one (.n .data (.pair .bool (.pair .str .str)))],bf:=[[some .s,some (.i .i64),some .dd]],aB:=[] }
def at4:Nat→Option aX:=fun _=>none
set_option maxRecDepth 100000 in
theorem aEN:∀x,bF at3 at4 f110 aln x=(fun x=>aa3 x) x:=by
 intro x
 kernel_rfl
theorem aEO:bh prog 110 (aln.F (fun x=>aa3 x)):=bG (F:=at3) (tbl:=at4) func110 (by kernel_rfl) mix (bH (l:=[]) (bE rfl rfl) rfl (by simp)) (by kernel_rfl) (by kernel_rfl) (by decide) (fun _=>by kernel_rfl) aEN
def alo:aV:=aln.az (by kernel_rfl) (fun x=>aa3 x)
theorem aEP:bq prog (110,alo):=bI func110 (by kernel_rfl) (by kernel_rfl) aEO
def F82:aZ:={ cfg:={ N:=47,T:=T,R:=R,az:=fun _ f=>bA f [(106,akM),(114,alm),(110,alo)],var:=[0,1,2,3,4,5],res:=[2,3,4],eqs:=EQ,dat:=[1,2,3,4,5],bK:=true },keys:=[0,2,3,4,5,8,24,32],aQ:=[.loc 13,.esc 11 0] }
def S82:aF:={ args:=[.one .s],boxes:=[],res:=[.one (.n .data (.pair .bool (.pair .str .str))),.one (.i .i64),.one (.i .i64)],bf:=[],aB:=[] }
def L82:Nat→Option aX:=fun n=>match n with
 |0=>some { head:={ live:=[0,3,5],aO:=[(.loc 13),(.esc 11 0)],vs:=[.slot 3 (.i .i64),.cell (.esc 11 0) 0 .s,.cell (.esc 11 0) 1 (.i .i64),.cell (.esc 11 0) 2 (.n .own (.pair .bool (.pair .str .str))),.cell (.loc 13) 2 (.i .i64),.cell (.loc 13) 3 (.i .i64),.cell (.loc 13) 4 (.i .i64),.cell (.loc 13) 5 (.i .i64)] },bT:=[(.ret,{ live:=[2,3,4],aO:=[],vs:=[.slot 2 (.n .data (.pair .bool (.pair .str .str))),.slot 3 (.i .i64),.slot 4 (.i .i64)] }),(.exit 0,{ live:=[5],aO:=[(.loc 13),(.esc 11 0)],vs:=[.cell (.esc 11 0) 0 .s,.cell (.esc 11 0) 1 (.i .i64),.cell (.esc 11 0) 2 (.n .own (.pair .bool (.pair .str .str))),.cell (.loc 13) 2 (.i .i64),.cell (.loc 13) 3 (.i .i64),.cell (.loc 13) 4 (.i .i64),.cell (.loc 13) 5 (.i .i64)] })] }
 |_=>none
set_option maxRecDepth 100000 in
theorem aEQ:∀x,bF F82 L82 f82 S82 x=(fun x=>xP x) x:=by
 intro x
 kernel_rfl
theorem aER:bh prog 82 (S82.F (fun x=>xP x)):=bG (F:=F82) (tbl:=L82) func82 (by kernel_rfl) mix (bH (l:=[(106,akM),(114,alm),(110,alo)]) (bE rfl rfl) rfl (List.forall_mem_cons.2 ⟨aD3,List.forall_mem_cons.2 ⟨aEM,List.forall_mem_cons.2 ⟨aEP,by simp⟩⟩⟩)) (by kernel_rfl) (by kernel_rfl) (by decide) (fun _=>by kernel_rfl) aEQ
def C82:aV:=S82.az (by kernel_rfl) (fun x=>xP x)
theorem G82:bq prog (82,C82):=bI func82 (by kernel_rfl) (by kernel_rfl) aER
def F57:aZ:={ cfg:={ N:=27,T:=T,R:=R,az:=fun _ f=>bA f [(82,C82)],var:=[0,1,2,3,4,5,6,8,15],res:=[4,5,6],eqs:=EQ,dat:=[2,3,4,5,6,8,15],bK:=true },keys:=[0,1,4,5,6,7,8,15],aQ:=[] }
def S57:aF:={ args:=[.one (.i .i64),.one .s],boxes:=[],res:=[.one (.n .data (.pair .bool (.pair .str .str))),.one (.i .i64),.one (.i .i64)],bf:=[],aB:=[] }
def L57:Nat→Option aX:=fun _=>none
set_option maxRecDepth 100000 in
theorem aET:∀x,bF F57 L57 f57 S57 x=(fun x=>aa6 x.1 x.2) x:=by
 intro x
 kernel_rfl
theorem aEU:bh prog 57 (S57.F (fun x=>aa6 x.1 x.2)):=bG (F:=F57) (tbl:=L57) func57 (by kernel_rfl) mix (bH (l:=[(82,C82)]) (bE rfl rfl) rfl (List.forall_mem_cons.2 ⟨G82,by simp⟩)) (by kernel_rfl) (by kernel_rfl) (by decide) (fun _=>by kernel_rfl) aET
def C57:aV:=S57.az (by kernel_rfl) (fun x=>aa6 x.1 x.2)
theorem G57:bq prog (57,C57):=bI func57 (by kernel_rfl) (by kernel_rfl) aEU
def F27:aZ:={ cfg:={ N:=27,T:=T,R:=R,az:=fun _ f=>bA f [(26,uU),(57,C57)],var:=[0,1,2,3,4,5,6,7],res:=[4,5,6],eqs:=EQ,dat:=[2,3,4,5,6,7],bK:=true },keys:=[0,1,4,5,6,7,10,20],aQ:=[.loc 4] }
def S27:aF:={ args:=[.one (.i .i64),.one .s],boxes:=[],res:=[.row (.pair (.int .i64) (.sl (.pair .bool (.pair .str .str)))),.one (.i .i64),.one (.i .i64)],bf:=[],aB:=[] }
def L27:Nat→Option aX:=fun _=>none
set_option maxRecDepth 100000 in
theorem aEW:∀x,bF F27 L27 f27 S27 x=(fun x=>xQ x.1 x.2) x:=by
 intro x
 kernel_rfl
theorem aEX:bh prog 27 (S27.F (fun x=>xQ x.1 x.2)):=bG (F:=F27) (tbl:=L27) func27 (by kernel_rfl) mix (bH (l:=[(26,uU),(57,C57)]) (bE rfl rfl) rfl (List.forall_mem_cons.2 ⟨G26,List.forall_mem_cons.2 ⟨G57,by simp⟩⟩)) (by kernel_rfl) (by kernel_rfl) (by decide) (fun _=>by kernel_rfl) aEW
def C27:aV:=S27.az (by kernel_rfl) (fun x=>xQ x.1 x.2)
theorem G27:bq prog (27,C27):=bI func27 (by kernel_rfl) (by kernel_rfl) aEX
def F29:aZ:={ cfg:={ N:=26,T:=T,R:=R,az:=fun _ f=>bA f [],var:=[0,1,2,3,4,5],res:=[4],eqs:=EQ,dat:=[2,3,4,5],bK:=true },keys:=[0,1,4,5,10,12,13,14,24],aQ:=[] }
def u6:aF:={ args:=[.one (.n .data (.pair .bool (.pair .str .str))),.one (.n .data (.pair .bool (.pair .str .str)))],boxes:=[],res:=[.one .b],bf:=[],aB:=[] }
def L29:Nat→Option aX:=fun n=>match n with
 |0=>some { head:={ live:=[0,1,12,13],aO:=[],vs:=[.slot 13 (.i .i64)] },bT:=[(.ret,{ live:=[4],aO:=[],vs:=[.slot 4 .b] }),(.exit 0,{ live:=[],aO:=[],vs:=[] })] }
 |_=>none
set_option maxRecDepth 100000 in
theorem alw:∀x,bF F29 L29 f29 u6 x=(fun x=>oA x.1 x.2) x:=by
 intro x
 kernel_rfl
theorem alx:bh prog 29 (u6.F (fun x=>oA x.1 x.2)):=bG (F:=F29) (tbl:=L29) func29 (by kernel_rfl) mix (bH (l:=[]) (bE rfl rfl) rfl (by simp)) (by kernel_rfl) (by kernel_rfl) (by decide) (fun _=>by kernel_rfl) alw
def yd:aV:=u6.az (by kernel_rfl) (fun x=>oA x.1 x.2)
theorem G29:bq prog (29,yd):=bI func29 (by kernel_rfl) (by kernel_rfl) alx
def F13:aZ:={ cfg:={ N:=29,T:=T,R:=R,az:=fun _ f=>bA f [(26,uU),(28,C28),(27,C27),(29,yd)],var:=[0,1,2,3,4,5],res:=[2],eqs:=EQ,dat:=[1,2,3,4,5],bK:=true },keys:=[0,1,2,3,5,9,28],aQ:=[.loc 1,.loc 3] }
def S13:aF:={ args:=[.row (.pair (.int .i64) (.sl (.pair .bool (.pair .str .str))))],boxes:=[],res:=[.one (.i .i64)],bf:=[],aB:=[] }
def L13:Nat→Option aX:=fun _=>none
set_option maxRecDepth 100000 in
theorem aEZ:∀x,bF F13 L13 f13 S13 x=(fun x=>xR x) x:=by
 intro x
 kernel_rfl
theorem aE0:bh prog 13 (S13.F (fun x=>xR x)):=bG (F:=F13) (tbl:=L13) func13 (by kernel_rfl) mix (bH (l:=[(26,uU),(28,C28),(27,C27),(29,yd)]) (bE rfl rfl) rfl (List.forall_mem_cons.2 ⟨G26,List.forall_mem_cons.2 ⟨G28,List.forall_mem_cons.2 ⟨G27,List.forall_mem_cons.2 ⟨G29,by simp⟩⟩⟩⟩)) (by kernel_rfl) (by kernel_rfl) (by decide) (fun _=>by kernel_rfl) aEZ
def C13:aV:=S13.az (by kernel_rfl) (fun x=>xR x)
theorem G13:bq prog (13,C13):=bI func13 (by kernel_rfl) (by kernel_rfl) aE0
def F60:aZ:={ cfg:={ N:=8,T:=T,R:=R,az:=fun _ f=>bA f [],var:=[0,1,2],res:=[2],eqs:=EQ,dat:=[1,2],bK:=true },keys:=[0,2,4],aQ:=[] }
def S60:aF:={ args:=[.one (.n .data (.pair .bool (.pair .str .str)))],boxes:=[],res:=[.one (.n .data (.pair .bool (.pair .str .str)))],bf:=[],aB:=[] }
def L60:Nat→Option aX:=fun _=>none
set_option maxRecDepth 100000 in
theorem aE2:∀x,bF F60 L60 f60 S60 x=(fun x=>abb x) x:=by
 intro x
 kernel_rfl
theorem aE3:bh prog 60 (S60.F (fun x=>abb x)):=bG (F:=F60) (tbl:=L60) func60 (by kernel_rfl) mix (bH (l:=[]) (bE rfl rfl) rfl (by simp)) (by kernel_rfl) (by kernel_rfl) (by decide) (fun _=>by kernel_rfl) aE2
def C60:aV:=S60.az (by kernel_rfl) (fun x=>abb x)
theorem G60:bq prog (60,C60):=bI func60 (by kernel_rfl) (by kernel_rfl) aE3
def F30:aZ:={ cfg:={ N:=9,T:=T,R:=R,az:=fun _ f=>bA f [(60,C60)],var:=[0,1],res:=[2],eqs:=EQ,dat:=[1],bK:=true },keys:=[0,1,2],aQ:=[.loc 1,.loc 2] }
def S30:aF:={ args:=[.row (.pair (.int .i64) (.sl (.pair .bool (.pair .str .str))))],boxes:=[],res:=[.row (.pair (.int .i64) (.sl (.pair .bool (.pair .str .str))))],bf:=[],aB:=[] }
def L30:Nat→Option aX:=fun _=>none
set_option maxRecDepth 100000 in
theorem aE5:∀x,bF F30 L30 f30 S30 x=(fun x=>xU x) x:=by
 intro x
 kernel_rfl
theorem aE6:bh prog 30 (S30.F (fun x=>xU x)):=bG (F:=F30) (tbl:=L30) func30 (by kernel_rfl) mix (bH (l:=[(60,C60)]) (bE rfl rfl) rfl (List.forall_mem_cons.2 ⟨G60,by simp⟩)) (by kernel_rfl) (by kernel_rfl) (by decide) (fun _=>by kernel_rfl) aE5
def C30:aV:=S30.az (by kernel_rfl) (fun x=>xU x)
theorem G30:bq prog (30,C30):=bI func30 (by kernel_rfl) (by kernel_rfl) aE6
def F61:aZ:={ cfg:={ N:=8,T:=T,R:=R,az:=fun _ f=>bA f [],var:=[0,1,2],res:=[2],eqs:=EQ,dat:=[1,2],bK:=true },keys:=[0,2,4],aQ:=[] }
def u7:aF:={ args:=[.one (.n .data (.pair (.int .i64) (.pair .str (.int .i64))))],boxes:=[],res:=[.one (.n .data (.pair (.int .i64) (.pair .str (.int .i64))))],bf:=[],aB:=[] }
def L61:Nat→Option aX:=fun _=>none
set_option maxRecDepth 100000 in
theorem alF:∀x,bF F61 L61 f61 u7 x=(fun x=>rX x) x:=by
 intro x
 kernel_rfl
theorem alG:bh prog 61 (u7.F (fun x=>rX x)):=bG (F:=F61) (tbl:=L61) func61 (by kernel_rfl) mix (bH (l:=[]) (bE rfl rfl) rfl (by simp)) (by kernel_rfl) (by kernel_rfl) (by decide) (fun _=>by kernel_rfl) alF
def ye:aV:=u7.az (by kernel_rfl) (fun x=>rX x)
theorem G61:bq prog (61,ye):=bI func61 (by kernel_rfl) (by kernel_rfl) alG
def F31:aZ:={ cfg:={ N:=8,T:=T,R:=R,az:=fun _ f=>bA f [(61,ye)],var:=[0,1],res:=[2],eqs:=EQ,dat:=[1],bK:=true },keys:=[0,1,2],aQ:=[.loc 1,.loc 2] }
def S31:aF:={ args:=[.row (.pair (.int .i64) (.pair (.int .i64) (.pair (.int .i64) (.pair (.pair (.int .i64) (.int .i64)) (.pair (.int .i64) (.pair (.sl (.pair (.int .i64) (.pair .str (.int .i64)))) (.pair .str (.pair (.int .i64) .bool))))))))],boxes:=[],res:=[.row (.pair (.int .i64) (.pair (.int .i64) (.pair (.int .i64) (.pair (.pair (.int .i64) (.int .i64)) (.pair (.int .i64) (.pair (.sl (.pair (.int .i64) (.pair .str (.int .i64)))) (.pair .str (.pair (.int .i64) .bool))))))))],bf:=[],aB:=[] }
def L31:Nat→Option aX:=fun _=>none
set_option maxRecDepth 100000 in
theorem aE8:∀x,bF F31 L31 f31 S31 x=(fun x=>afC x) x:=by
 intro x
 kernel_rfl
theorem aE9:bh prog 31 (S31.F (fun x=>afC x)):=bG (F:=F31) (tbl:=L31) func31 (by kernel_rfl) mix (bH (l:=[(61,ye)]) (bE rfl rfl) rfl (List.forall_mem_cons.2 ⟨G61,by simp⟩)) (by kernel_rfl) (by kernel_rfl) (by decide) (fun _=>by kernel_rfl) aE8
def C31:aV:=S31.az (by kernel_rfl) (fun x=>afC x)
theorem G31:bq prog (31,C31):=bI func31 (by kernel_rfl) (by kernel_rfl) aE9
def aul:aZ:={ cfg:={ N:=42,T:=T,R:=R,az:=fun _ f=>bA f [(30,C30),(31,C31)],var:=[0,1,3,4,5,6,7],res:=[2],eqs:=EQ,dat:=[1,3,4,5,6,7] },keys:=[0,1,2,3,5,7,12,13,14,15,27,28,29,30],aQ:=[.loc 1,.loc 2,.loc 3,.loc 5,.loc 7] }
def alK:aF:={ args:=[.row (.pair (.sl (.pair (.int .i64) (.sl (.pair .bool (.pair .str .str))))) (.pair (.sl (.pair (.int .i64) (.pair (.int .i64) (.pair (.int .i64) (.pair (.pair (.int .i64) (.int .i64)) (.pair (.int .i64) (.pair (.sl (.pair (.int .i64) (.pair .str (.int .i64)))) (.pair .str (.pair (.int .i64) .bool))))))))) (.int .i64)))],boxes:=[],res:=[.cells [.n .own (.pair (.int .i64) (.sl (.pair .bool (.pair .str .str)))),.n .own (.pair (.int .i64) (.pair (.int .i64) (.pair (.int .i64) (.pair (.pair (.int .i64) (.int .i64)) (.pair (.int .i64) (.pair (.sl (.pair (.int .i64) (.pair .str (.int .i64)))) (.pair .str (.pair (.int .i64) .bool)))))))),.i .i64]],bf:=[],aB:=[] }
def aum:Nat→Option aX:=fun n=>match n with
 |0=>some { head:={ live:=[1,2,3,12,13,14],aO:=[(.loc 1),(.loc 2),(.loc 3)],vs:=[.slot 14 (.i .i64),.cell (.loc 3) 0 (.n .own (.pair (.int .i64) (.sl (.pair .bool (.pair .str .str))))),.cell (.loc 3) 1 (.n .own (.pair (.int .i64) (.pair (.int .i64) (.pair (.int .i64) (.pair (.pair (.int .i64) (.int .i64)) (.pair (.int .i64) (.pair (.sl (.pair (.int .i64) (.pair .str (.int .i64)))) (.pair .str (.pair (.int .i64) .bool))))))))),.cell (.loc 3) 2 (.i .i64)] },bT:=[(.exit 0,{ live:=[1,2,3],aO:=[(.loc 1),(.loc 2),(.loc 3)],vs:=[.cell (.loc 3) 0 (.n .own (.pair (.int .i64) (.sl (.pair .bool (.pair .str .str))))),.cell (.loc 3) 1 (.n .own (.pair (.int .i64) (.pair (.int .i64) (.pair (.int .i64) (.pair (.pair (.int .i64) (.int .i64)) (.pair (.int .i64) (.pair (.sl (.pair (.int .i64) (.pair .str (.int .i64)))) (.pair .str (.pair (.int .i64) .bool))))))))),.cell (.loc 3) 2 (.i .i64)] })] }
 |1=>some { head:={ live:=[2,3,27,28,29],aO:=[(.loc 2),(.loc 3)],vs:=[.slot 29 (.i .i64),.cell (.loc 3) 0 (.n .own (.pair (.int .i64) (.sl (.pair .bool (.pair .str .str))))),.cell (.loc 3) 1 (.n .own (.pair (.int .i64) (.pair (.int .i64) (.pair (.int .i64) (.pair (.pair (.int .i64) (.int .i64)) (.pair (.int .i64) (.pair (.sl (.pair (.int .i64) (.pair .str (.int .i64)))) (.pair .str (.pair (.int .i64) .bool))))))))),.cell (.loc 3) 2 (.i .i64)] },bT:=[(.exit 2,{ live:=[2,3],aO:=[(.loc 2),(.loc 3)],vs:=[.cell (.loc 3) 0 (.n .own (.pair (.int .i64) (.sl (.pair .bool (.pair .str .str))))),.cell (.loc 3) 1 (.n .own (.pair (.int .i64) (.pair (.int .i64) (.pair (.int .i64) (.pair (.pair (.int .i64) (.int .i64)) (.pair (.int .i64) (.pair (.sl (.pair (.int .i64) (.pair .str (.int .i64)))) (.pair .str (.pair (.int .i64) .bool))))))))),.cell (.loc 3) 2 (.i .i64)] })] }
 |_=>none
set_option maxRecDepth 100000 in
theorem aFb:∀x,bF aul aum f14 alK x=(fun x=>xV x) x:=by
 intro x
 kernel_rfl
theorem aFc:bh prog 14 (alK.F (fun x=>xV x)):=bG (F:=aul) (tbl:=aum) func14 (by kernel_rfl) mix (bH (l:=[(30,C30),(31,C31)]) (bE rfl rfl) rfl (List.forall_mem_cons.2 ⟨G30,List.forall_mem_cons.2 ⟨G31,by simp⟩⟩)) (by kernel_rfl) (by kernel_rfl) (by decide) (fun _=>by kernel_rfl) aFb
def alL:aV:=alK.az (by kernel_rfl) (fun x=>xV x)
theorem aFd:bq prog (14,alL):=bI func14 (by kernel_rfl) (by kernel_rfl) aFc
def F16:aZ:={ cfg:={ N:=22,T:=T,R:=R,az:=fun _ f=>bA f [],var:=[0,1,2,3,4,5],res:=[2],eqs:=EQ,dat:=[1,2,3,4,5],bK:=true },keys:=[0,1,2,3,4,5,7,8,9,10,15],aQ:=[.loc 1,.loc 5] }
def vb:aF:={ args:=[.row (.pair (.int .i64) (.sl (.pair .bool (.pair .str .str))))],boxes:=[],res:=[.one (.n .data (.int .i64))],bf:=[],aB:=[] }
def L16:Nat→Option aX:=fun n=>match n with
 |0=>some { head:={ live:=[3,7,8,9],aO:=[],vs:=[.slot 3 (.n .own (.int .i64)),.slot 9 (.i .i64)] },bT:=[(.exit 0,{ live:=[3],aO:=[],vs:=[.slot 3 (.n .own (.int .i64))] })] }
 |_=>none
set_option maxRecDepth 100000 in
theorem alM:∀x,bF F16 L16 f16 vb x=(fun x=>nt x) x:=by
 intro x
 kernel_rfl
theorem alN:bh prog 16 (vb.F (fun x=>nt x)):=bG (F:=F16) (tbl:=L16) func16 (by kernel_rfl) mix (bH (l:=[]) (bE rfl rfl) rfl (by simp)) (by kernel_rfl) (by kernel_rfl) (by decide) (fun _=>by kernel_rfl) alM
def sq:aV:=vb.az (by kernel_rfl) (fun x=>nt x)
theorem G16:bq prog (16,sq):=bI func16 (by kernel_rfl) (by kernel_rfl) alN
def F62:aZ:={ cfg:={ N:=33,T:=T,R:=R,az:=fun _ f=>bA f [(86,C86)],var:=[0,1,2,3,4,5,6,7,15,23],res:=[4,5],eqs:=EQ,dat:=[2,3,4,5,6,7,15,23],bK:=true },keys:=[0,1,4,5,6,7,8,15,23],aQ:=[] }
def S62:aF:={ args:=[.one (.i .i64),.one .s],boxes:=[],res:=[.one (.n .data (.pair (.int .i64) (.pair .str (.int .i64)))),.one (.i .i64)],bf:=[],aB:=[] }
def L62:Nat→Option aX:=fun _=>none
set_option maxRecDepth 100000 in
theorem aFe:∀x,bF F62 L62 f62 S62 x=(fun x=>aa8 x.1 x.2) x:=by
 intro x
 kernel_rfl
theorem aFf:bh prog 62 (S62.F (fun x=>aa8 x.1 x.2)):=bG (F:=F62) (tbl:=L62) func62 (by kernel_rfl) mix (bH (l:=[(86,C86)]) (bE rfl rfl) rfl (List.forall_mem_cons.2 ⟨G86,by simp⟩)) (by kernel_rfl) (by kernel_rfl) (by decide) (fun _=>by kernel_rfl) aFe
def C62:aV:=S62.az (by kernel_rfl) (fun x=>aa8 x.1 x.2)
theorem G62:bq prog (62,C62):=bI func62 (by kernel_rfl) (by kernel_rfl) aFf
def F32:aZ:={ cfg:={ N:=39,T:=T,R:=R,az:=fun _ f=>bA f [(26,uU),(62,C62)],var:=[0,1,2,3,4,5],res:=[4,5],eqs:=EQ,dat:=[2,3,4,5],bK:=true },keys:=[0,1,2,4,5,9,27],aQ:=[.loc 2] }
def S32:aF:={ args:=[.row (.pair (.int .i64) (.sl (.pair .bool (.pair .str .str)))),.one (.i .i64)],boxes:=[],res:=[.one (.n .data (.pair (.int .i64) (.pair .str (.int .i64)))),.one (.i .i64)],bf:=[],aB:=[] }
def L32:Nat→Option aX:=fun _=>none
set_option maxRecDepth 100000 in
theorem aFh:∀x,bF F32 L32 f32 S32 x=(fun x=>xS x.1 x.2) x:=by
 intro x
 kernel_rfl
theorem aFi:bh prog 32 (S32.F (fun x=>xS x.1 x.2)):=bG (F:=F32) (tbl:=L32) func32 (by kernel_rfl) mix (bH (l:=[(26,uU),(62,C62)]) (bE rfl rfl) rfl (List.forall_mem_cons.2 ⟨G26,List.forall_mem_cons.2 ⟨G62,by simp⟩⟩)) (by kernel_rfl) (by kernel_rfl) (by decide) (fun _=>by kernel_rfl) aFh
def C32:aV:=S32.az (by kernel_rfl) (fun x=>xS x.1 x.2)
theorem G32:bq prog (32,C32):=bI func32 (by kernel_rfl) (by kernel_rfl) aFi
def F15:aZ:={ cfg:={ N:=24,T:=T,R:=R,az:=fun _ f=>bA f [(16,sq),(32,C32)],var:=[0,1,2,3,4,5],res:=[2],eqs:=EQ,dat:=[1,2,3,4,5],bK:=true },keys:=[0,1,2,3,5,8,9,10,11],aQ:=[.loc 1] }
def S15:aF:={ args:=[.row (.pair (.int .i64) (.sl (.pair .bool (.pair .str .str))))],boxes:=[],res:=[.one (.l .data (.aU false (.int .i64) (.sl (.pair (.int .i64) (.pair .str (.int .i64))))))],bf:=[],aB:=[] }
def L15:Nat→Option aX:=fun n=>match n with
 |0=>some { head:={ live:=[1,3,8,9,10],aO:=[(.loc 1)],vs:=[.slot 3 (.l .own (.aU false (.int .i64) (.sl (.pair (.int .i64) (.pair .str (.int .i64)))))),.slot 10 (.i .i64)] },bT:=[(.exit 0,{ live:=[3],aO:=[],vs:=[.slot 3 (.l .own (.aU false (.int .i64) (.sl (.pair (.int .i64) (.pair .str (.int .i64))))))] })] }
 |_=>none
set_option maxRecDepth 100000 in
theorem aFk:∀x,bF F15 L15 f15 S15 x=(fun x=>xT x) x:=by
 intro x
 kernel_rfl
theorem aFl:bh prog 15 (S15.F (fun x=>xT x)):=bG (F:=F15) (tbl:=L15) func15 (by kernel_rfl) mix (bH (l:=[(16,sq),(32,C32)]) (bE rfl rfl) rfl (List.forall_mem_cons.2 ⟨G16,List.forall_mem_cons.2 ⟨G32,by simp⟩⟩)) (by kernel_rfl) (by kernel_rfl) (by decide) (fun _=>by kernel_rfl) aFk
def C15:aV:=S15.az (by kernel_rfl) (fun x=>xT x)
theorem G15:bq prog (15,C15):=bI func15 (by kernel_rfl) (by kernel_rfl) aFl
def F34:aZ:={ cfg:={ N:=28,T:=T,R:=R,az:=fun _ f=>bA f [],var:=[0,1,2,3,4,5,14,20],res:=[2],eqs:=EQ,dat:=[1,2,3,4,5,14,20],bK:=true },keys:=[0,2,3,5,6,7,8,9,13,14,20],aQ:=[.loc 5] }
def vf:aF:={ args:=[.one (.n .data (.pair (.int .i64) (.pair .str (.int .i64))))],boxes:=[],res:=[.one .s],bf:=[],aB:=[] }
def L34:Nat→Option aX:=fun n=>match n with
 |0=>some { head:={ live:=[3,6,7,8],aO:=[],vs:=[.slot 3 (.n .own (.int .u8)),.slot 8 (.i .i64)] },bT:=[(.exit 0,{ live:=[3],aO:=[],vs:=[.slot 3 (.n .own (.int .u8))] })] }
 |_=>none
set_option maxRecDepth 100000 in
theorem alU:∀x,bF F34 L34 f34 vf x=(fun x=>oC x) x:=by
 intro x
 kernel_rfl
theorem alV:bh prog 34 (vf.F (fun x=>oC x)):=bG (F:=F34) (tbl:=L34) func34 (by kernel_rfl) mix (bH (l:=[]) (bE rfl rfl) rfl (by simp)) (by kernel_rfl) (by kernel_rfl) (by decide) (fun _=>by kernel_rfl) alU
def sr:aV:=vf.az (by kernel_rfl) (fun x=>oC x)
theorem G34:bq prog (34,sr):=bI func34 (by kernel_rfl) (by kernel_rfl) alV
def F63:aZ:={ cfg:={ N:=26,T:=T,R:=R,az:=fun _ f=>bA f [],var:=[0,1,2,3,4],res:=[2],eqs:=EQ,dat:=[1,2,3,4],bK:=true },keys:=[0,2,3,4,9,10,11],aQ:=[] }
def vg:aF:={ args:=[.one .s],boxes:=[],res:=[.one .s],bf:=[],aB:=[] }
def L63:Nat→Option aX:=fun n=>match n with
 |0=>some { head:={ live:=[0,3,9,10],aO:=[],vs:=[.slot 3 (.l .own (.int .u8)),.slot 10 (.i .i64)] },bT:=[(.exit 0,{ live:=[3],aO:=[],vs:=[.slot 3 (.l .own (.int .u8))] })] }
 |_=>none
set_option maxRecDepth 100000 in
theorem alW:∀x,bF F63 L63 f63 vg x=(fun x=>rV x) x:=by
 intro x
 kernel_rfl
theorem alX:bh prog 63 (vg.F (fun x=>rV x)):=bG (F:=F63) (tbl:=L63) func63 (by kernel_rfl) mix (bH (l:=[]) (bE rfl rfl) rfl (by simp)) (by kernel_rfl) (by kernel_rfl) (by decide) (fun _=>by kernel_rfl) alW
def yf:aV:=vg.az (by kernel_rfl) (fun x=>rV x)
theorem G63:bq prog (63,yf):=bI func63 (by kernel_rfl) (by kernel_rfl) alX
def F33:aZ:={ cfg:={ N:=93,T:=T,R:=R,az:=fun _ f=>bA f [(63,yf)],var:=[0,1,2,3,4,5,6,7,8,9,10,11,12,13,14,15],res:=[4],eqs:=EQ,dat:=[2,3,4,5,6,7,8,9,10,11,12,13,14,15],bK:=true },keys:=[0,1,4,5,6,7,9,10,11,12,13,14,15,18,29,30,31,32,47,69,79,80,81,82,86],aQ:=[.loc 9] }
def S33:aF:={ args:=[.one (.n .data (.pair .bool (.pair (.sl (.pair (.pair (.int .u8) (.pair (.int .u8) (.pair (.int .u8) (.pair (.int .u8) (.pair (.int .u8) (.pair (.int .u8) (.pair (.int .u8) (.pair (.int .u8) (.pair (.int .u8) (.pair (.int .u8) (.pair (.int .u8) (.pair (.int .u8) (.pair (.int .u8) (.pair (.int .u8) (.pair (.int .u8) (.pair (.int .u8) (.pair (.int .u8) (.pair (.int .u8) (.pair (.int .u8) (.pair (.int .u8) (.pair (.int .u8) (.pair (.int .u8) (.pair (.int .u8) (.pair (.int .u8) (.pair (.int .u8) (.pair (.int .u8) (.pair (.int .u8) (.pair (.int .u8) (.pair (.int .u8) (.pair (.int .u8) (.pair (.int .u8) (.int .u8)))))))))))))))))))))))))))))))) (.pair (.int .i64) .bool))) (.sl (.pair (.pair (.int .u8) (.pair (.int .u8) (.pair (.int .u8) (.pair (.int .u8) (.pair (.int .u8) (.pair (.int .u8) (.pair (.int .u8) (.pair (.int .u8) (.pair (.int .u8) (.pair (.int .u8) (.pair (.int .u8) (.pair (.int .u8) (.pair (.int .u8) (.pair (.int .u8) (.pair (.int .u8) (.pair (.int .u8) (.pair (.int .u8) (.pair (.int .u8) (.pair (.int .u8) (.pair (.int .u8) (.pair (.int .u8) (.pair (.int .u8) (.pair (.int .u8) (.pair (.int .u8) (.pair (.int .u8) (.pair (.int .u8) (.pair (.int .u8) (.pair (.int .u8) (.pair (.int .u8) (.pair (.int .u8) (.pair (.int .u8) (.int .u8)))))))))))))))))))))))))))))))) (.pair (.int .i64) .bool)))))),.one .s],boxes:=[],res:=[.one (.n .data (.int .i64))],bf:=[],aB:=[] }
def L33:Nat→Option aX:=fun n=>match n with
 |0=>some { head:={ live:=[1,5,6,7,29,30,31],aO:=[],vs:=[] },bT:=[(.exit 0,{ live:=[7],aO:=[],vs:=[] })] }
 |2=>some { head:={ live:=[7,13,79,80,81],aO:=[],vs:=[.slot 13 (.n .own (.int .i64)),.slot 81 (.i .i64)] },bT:=[(.exit 4,{ live:=[13],aO:=[],vs:=[.slot 13 (.n .own (.int .i64))] })] }
 |_=>none
set_option maxRecDepth 100000 in
theorem aFn:∀x,bF F33 L33 f33 S33 x=(fun x=>afB x.1 x.2) x:=by
 intro x
 kernel_rfl
theorem aFo:bh prog 33 (S33.F (fun x=>afB x.1 x.2)):=bG (F:=F33) (tbl:=L33) func33 (by kernel_rfl) mix (bH (l:=[(63,yf)]) (bE rfl rfl) rfl (List.forall_mem_cons.2 ⟨G63,by simp⟩)) (by kernel_rfl) (by kernel_rfl) (by decide) (fun _=>by kernel_rfl) aFn
def C33:aV:=S33.az (by kernel_rfl) (fun x=>afB x.1 x.2)
theorem G33:bq prog (33,C33):=bI func33 (by kernel_rfl) (by kernel_rfl) aFo
def F67:aZ:={ cfg:={ N:=9,T:=T,R:=R,az:=fun _ f=>bA f [],var:=[0,1,2],res:=[2],eqs:=EQ,dat:=[1,2],bK:=true },keys:=[0,1,2,5],aQ:=[.loc 1] }
def vh:aF:={ args:=[.row (.pair (.int .i64) (.pair .str (.int .i64)))],boxes:=[],res:=[.one (.i .i64)],bf:=[],aB:=[] }
def L67:Nat→Option aX:=fun _=>none
set_option maxRecDepth 100000 in
theorem al1:∀x,bF F67 L67 f67 vh x=(fun x=>nu x) x:=by
 intro x
 kernel_rfl
theorem al2:bh prog 67 (vh.F (fun x=>nu x)):=bG (F:=F67) (tbl:=L67) func67 (by kernel_rfl) mix (bH (l:=[]) (bE rfl rfl) rfl (by simp)) (by kernel_rfl) (by kernel_rfl) (by decide) (fun _=>by kernel_rfl) al1
def me:aV:=vh.az (by kernel_rfl) (fun x=>nu x)
theorem yg:bq prog (67,me):=bI func67 (by kernel_rfl) (by kernel_rfl) al2
def F36:aZ:={ cfg:={ N:=18,T:=T,R:=R,az:=fun _ f=>bA f [(67,me)],var:=[0,1,2,3,4,5],res:=[2],eqs:=EQ,dat:=[1,2,3,4,5],bK:=true },keys:=[0,2,3,5,6,7,8,9],aQ:=[.loc 5] }
def vi:aF:={ args:=[.one (.n .data (.pair (.int .i64) (.pair .str (.int .i64))))],boxes:=[],res:=[.one (.i .i64)],bf:=[],aB:=[] }
def L36:Nat→Option aX:=fun n=>match n with
 |0=>some { head:={ live:=[3,6,7,8],aO:=[],vs:=[.slot 3 (.i .i64),.slot 8 (.i .i64)] },bT:=[(.exit 0,{ live:=[3],aO:=[],vs:=[.slot 3 (.i .i64)] })] }
 |_=>none
set_option maxRecDepth 100000 in
theorem al3:∀x,bF F36 L36 f36 vi x=(fun x=>oB x) x:=by
 intro x
 kernel_rfl
theorem al4:bh prog 36 (vi.F (fun x=>oB x)):=bG (F:=F36) (tbl:=L36) func36 (by kernel_rfl) mix (bH (l:=[(67,me)]) (bE rfl rfl) rfl (List.forall_mem_cons.2 ⟨yg,by simp⟩)) (by kernel_rfl) (by kernel_rfl) (by decide) (fun _=>by kernel_rfl) al3
def oF:aV:=vi.az (by kernel_rfl) (fun x=>oB x)
theorem G36:bq prog (36,oF):=bI func36 (by kernel_rfl) (by kernel_rfl) al4
def F68:aZ:={ cfg:={ N:=51,T:=T,R:=R,az:=fun _ f=>bA f [],var:=[0,1,2,3,18,25,32],res:=[2],eqs:=EQ,dat:=[1,2,3,18,25,32],bK:=true },keys:=[0,2,3,18,25,32],aQ:=[] }
def vj:aF:={ args:=[.one (.i .u8)],boxes:=[],res:=[.one (.i .i64)],bf:=[],aB:=[] }
def L68:Nat→Option aX:=fun _=>none
set_option maxRecDepth 100000 in
theorem al5:∀x,bF F68 L68 f68 vj x=(fun x=>j5 x) x:=by
 intro x
 kernel_rfl
theorem al6:bh prog 68 (vj.F (fun x=>j5 x)):=bG (F:=F68) (tbl:=L68) func68 (by kernel_rfl) mix (bH (l:=[]) (bE rfl rfl) rfl (by simp)) (by kernel_rfl) (by kernel_rfl) (by decide) (fun _=>by kernel_rfl) al5
def j6:aV:=vj.az (by kernel_rfl) (fun x=>j5 x)
theorem vm:bq prog (68,j6):=bI func68 (by kernel_rfl) (by kernel_rfl) al6
def F37:aZ:={ cfg:={ N:=37,T:=T,R:=R,az:=fun _ f=>bA f [(68,j6)],var:=[0,1,2,3,4,5,6],res:=[2],eqs:=EQ,dat:=[1,2,3,4,5,6],bK:=true },keys:=[0,2,3,5,6,7,8,9,10,15,23],aQ:=[.loc 5] }
def vn:aF:={ args:=[.one (.n .data (.pair (.int .i64) (.pair .str (.int .i64))))],boxes:=[],res:=[.one (.n .data .bool)],bf:=[],aB:=[] }
def L37:Nat→Option aX:=fun n=>match n with
 |0=>some { head:={ live:=[3,7,8,9],aO:=[],vs:=[.slot 3 (.n .own .bool),.slot 9 (.i .i64)] },bT:=[(.exit 0,{ live:=[3],aO:=[],vs:=[.slot 3 (.n .own .bool)] })] }
 |1=>some { head:={ live:=[3,5,6,7,8,9],aO:=[(.loc 5)],vs:=[.slot 3 (.n .own .bool),.slot 6 (.i .i64)] },bT:=[(.exit 2,{ live:=[3,7,8,9],aO:=[],vs:=[.slot 3 (.n .own .bool)] })] }
 |_=>none
set_option maxRecDepth 100000 in
theorem al7:∀x,bF F37 L37 f37 vn x=(fun x=>rW x) x:=by
 intro x
 kernel_rfl
theorem al8:bh prog 37 (vn.F (fun x=>rW x)):=bG (F:=F37) (tbl:=L37) func37 (by kernel_rfl) mix (bH (l:=[(68,j6)]) (bE rfl rfl) rfl (List.forall_mem_cons.2 ⟨vm,by simp⟩)) (by kernel_rfl) (by kernel_rfl) (by decide) (fun _=>by kernel_rfl) al7
def yh:aV:=vn.az (by kernel_rfl) (fun x=>rW x)
theorem G37:bq prog (37,yh):=bI func37 (by kernel_rfl) (by kernel_rfl) al8
def F38:aZ:={ cfg:={ N:=67,T:=T,R:=R,az:=fun _ f=>bA f [(36,oF),(67,me)],var:=[0,1,2,3,4,5,6,7,8,9,10,11,12,13,14],res:=[6,7],eqs:=EQ,dat:=[3,4,5,6,7,8,9,10,11,12,13,14],bK:=true },keys:=[0,1,2,6,7,8,9,11,12,13,14,27,28,29,30,31,46,49],aQ:=[.loc 11] }
def S38:aF:={ args:=[.one (.n .data (.pair (.int .i64) (.pair .str (.int .i64)))),.one (.i .i64),.one (.i .i64)],boxes:=[],res:=[.one (.n .data (.pair (.int .i64) (.pair .str (.int .i64)))),.one .b],bf:=[],aB:=[] }
def L38:Nat→Option aX:=fun n=>match n with
 |0=>some { head:={ live:=[1,2,8,9,28,29,30],aO:=[],vs:=[.slot 8 (.n .own (.pair (.int .i64) (.pair .str (.int .i64)))),.slot 9 (.i .i64),.slot 30 (.i .i64)] },bT:=[(.exit 0,{ live:=[8],aO:=[],vs:=[.slot 8 (.n .own (.pair (.int .i64) (.pair .str (.int .i64))))] })] }
 |_=>none
set_option maxRecDepth 100000 in
theorem aFq:∀x,bF F38 L38 f38 S38 x=(fun x=>afA x.1 x.2.1 x.2.2) x:=by
 intro x
 kernel_rfl
theorem aFr:bh prog 38 (S38.F (fun x=>afA x.1 x.2.1 x.2.2)):=bG (F:=F38) (tbl:=L38) func38 (by kernel_rfl) mix (bH (l:=[(36,oF),(67,me)]) (bE rfl rfl) rfl (List.forall_mem_cons.2 ⟨G36,List.forall_mem_cons.2 ⟨yg,by simp⟩⟩)) (by kernel_rfl) (by kernel_rfl) (by decide) (fun _=>by kernel_rfl) aFq
def C38:aV:=S38.az (by kernel_rfl) (fun x=>afA x.1 x.2.1 x.2.2)
theorem G38:bq prog (38,C38):=bI func38 (by kernel_rfl) (by kernel_rfl) aFr
def F39:aZ:={ cfg:={ N:=36,T:=T,R:=R,az:=fun _ f=>bA f [(68,j6)],var:=[0,1,2,3],res:=[2,3],eqs:=EQ,dat:=[1,2,3],bK:=true },keys:=[0,2,3,15,28,33],aQ:=[] }
def vo:aF:={ args:=[.one .s],boxes:=[],res:=[.one (.i .i64),.one (.i .i64)],bf:=[],aB:=[] }
def L39:Nat→Option aX:=fun n=>match n with
 |0=>some { head:={ live:=[0,2,3],aO:=[],vs:=[.slot 2 (.i .i64)] },bT:=[(.exit 0,{ live:=[0,2,3],aO:=[],vs:=[.slot 2 (.i .i64)] })] }
 |1=>some { head:={ live:=[0,2,3],aO:=[],vs:=[.slot 3 (.i .i64)] },bT:=[(.exit 2,{ live:=[2,3],aO:=[],vs:=[.slot 3 (.i .i64)] })] }
 |_=>none
set_option maxRecDepth 100000 in
theorem amc:∀x,bF F39 L39 f39 vo x=(fun x=>rU x) x:=by
 intro x
 kernel_rfl
theorem amd:bh prog 39 (vo.F (fun x=>rU x)):=bG (F:=F39) (tbl:=L39) func39 (by kernel_rfl) mix (bH (l:=[(68,j6)]) (bE rfl rfl) rfl (List.forall_mem_cons.2 ⟨vm,by simp⟩)) (by kernel_rfl) (by kernel_rfl) (by decide) (fun _=>by kernel_rfl) amc
def yj:aV:=vo.az (by kernel_rfl) (fun x=>rU x)
theorem G39:bq prog (39,yj):=bI func39 (by kernel_rfl) (by kernel_rfl) amd
def F17:aZ:={ cfg:={ N:=92,T:=T,R:=R,az:=fun _ f=>bA f [(34,sr),(33,C33),(36,oF),(37,yh),(38,C38),(39,yj)],var:=[0,1,2,3,4,5,6,7,8,9,10,11,12,13,14,15,16,17],res:=[4],eqs:=EQ,dat:=[2,3,4,5,6,7,8,9,10,11,12,13,14,15,16,17],bK:=true },keys:=[0,1,4,5,7,8,9,10,12,13,15,16,17,21,22,23,24,41,42,43,44,62,70,80],aQ:=[.loc 17] }
def S17:aF:={ args:=[.one (.n .data (.pair .bool (.pair (.sl (.pair (.pair (.int .u8) (.pair (.int .u8) (.pair (.int .u8) (.pair (.int .u8) (.pair (.int .u8) (.pair (.int .u8) (.pair (.int .u8) (.pair (.int .u8) (.pair (.int .u8) (.pair (.int .u8) (.pair (.int .u8) (.pair (.int .u8) (.pair (.int .u8) (.pair (.int .u8) (.pair (.int .u8) (.pair (.int .u8) (.pair (.int .u8) (.pair (.int .u8) (.pair (.int .u8) (.pair (.int .u8) (.pair (.int .u8) (.pair (.int .u8) (.pair (.int .u8) (.pair (.int .u8) (.pair (.int .u8) (.pair (.int .u8) (.pair (.int .u8) (.pair (.int .u8) (.pair (.int .u8) (.pair (.int .u8) (.pair (.int .u8) (.int .u8)))))))))))))))))))))))))))))))) (.pair (.int .i64) .bool))) (.sl (.pair (.pair (.int .u8) (.pair (.int .u8) (.pair (.int .u8) (.pair (.int .u8) (.pair (.int .u8) (.pair (.int .u8) (.pair (.int .u8) (.pair (.int .u8) (.pair (.int .u8) (.pair (.int .u8) (.pair (.int .u8) (.pair (.int .u8) (.pair (.int .u8) (.pair (.int .u8) (.pair (.int .u8) (.pair (.int .u8) (.pair (.int .u8) (.pair (.int .u8) (.pair (.int .u8) (.pair (.int .u8) (.pair (.int .u8) (.pair (.int .u8) (.pair (.int .u8) (.pair (.int .u8) (.pair (.int .u8) (.pair (.int .u8) (.pair (.int .u8) (.pair (.int .u8) (.pair (.int .u8) (.pair (.int .u8) (.pair (.int .u8) (.int .u8)))))))))))))))))))))))))))))))) (.pair (.int .i64) .bool)))))),.one (.n .data (.pair (.int .i64) (.pair .str (.int .i64))))],boxes:=[],res:=[.one (.n .data (.pair (.int .i64) (.int .i64)))],bf:=[],aB:=[] }
def L17:Nat→Option aX:=fun n=>match n with
 |0=>some { head:={ live:=[1,5,21,22,23],aO:=[],vs:=[] },bT:=[(.exit 0,{ live:=[1,5],aO:=[],vs:=[] })] }
 |1=>some { head:={ live:=[1,5,8,9,10,41,42,43],aO:=[],vs:=[.slot 9 (.n .own (.pair (.int .i64) (.int .i64))),.slot 10 (.i .i64),.slot 43 (.i .i64)] },bT:=[(.exit 2,{ live:=[9],aO:=[],vs:=[.slot 9 (.n .own (.pair (.int .i64) (.int .i64)))] })] }
 |2=>some { head:={ live:=[1,5,8,9,12,17,41,42,43],aO:=[(.loc 17)],vs:=[.cell (.loc 17) 0 (.i .i64)] },bT:=[(.exit 4,{ live:=[1,5,8,9,12,17,41,42,43],aO:=[(.loc 17)],vs:=[.cell (.loc 17) 0 (.i .i64)] })] }
 |3=>some { head:={ live:=[1,5,8,9,12,17,41,42,43],aO:=[(.loc 17)],vs:=[.cell (.loc 17) 1 (.i .i64)] },bT:=[(.exit 6,{ live:=[1,5,8,9,12,17,41,42,43],aO:=[(.loc 17)],vs:=[.cell (.loc 17) 1 (.i .i64)] })] }
 |_=>none
set_option maxRecDepth 100000 in
theorem aFt:∀x,bF F17 L17 f17 S17 x=(fun x=>aa7 x.1 x.2) x:=by
 intro x
 kernel_rfl
theorem aFu:bh prog 17 (S17.F (fun x=>aa7 x.1 x.2)):=bG (F:=F17) (tbl:=L17) func17 (by kernel_rfl) mix (bH (l:=[(34,sr),(33,C33),(36,oF),(37,yh),(38,C38),(39,yj)]) (bE rfl rfl) rfl (List.forall_mem_cons.2 ⟨G34,List.forall_mem_cons.2 ⟨G33,List.forall_mem_cons.2 ⟨G36,List.forall_mem_cons.2 ⟨G37,List.forall_mem_cons.2 ⟨G38,List.forall_mem_cons.2 ⟨G39,by simp⟩⟩⟩⟩⟩⟩)) (by kernel_rfl) (by kernel_rfl) (by decide) (fun _=>by kernel_rfl) aFt
def C17:aV:=S17.az (by kernel_rfl) (fun x=>aa7 x.1 x.2)
theorem G17:bq prog (17,C17):=bI func17 (by kernel_rfl) (by kernel_rfl) aFu
def F7:aZ:={ cfg:={ N:=87,T:=T,R:=R,az:=fun _ f=>bA f [(13,C13),(14,alL),(15,C15),(16,sq),(17,C17)],var:=[0,1,2,3,5,6,7,8,9,10,11,12,13,14,15,16],res:=[4,5],eqs:=EQ,dat:=[2,3,5,6,7,8,9,10,11,12,13,14,15,16],bK:=true },keys:=[0,1,4,5,7,8,9,10,11,12,14,16,19,21,22,23,24,30,37,38,39,40,47,48,49,50,57,58,59,60,84],aQ:=[.loc 4,.loc 7,.loc 9,.loc 11,.loc 16] }
def S7:aF:={ args:=[.one (.n .data (.pair (.int .i64) (.sl (.pair .bool (.pair .str .str))))),.one (.n .data (.pair .bool (.pair (.sl (.pair (.pair (.int .u8) (.pair (.int .u8) (.pair (.int .u8) (.pair (.int .u8) (.pair (.int .u8) (.pair (.int .u8) (.pair (.int .u8) (.pair (.int .u8) (.pair (.int .u8) (.pair (.int .u8) (.pair (.int .u8) (.pair (.int .u8) (.pair (.int .u8) (.pair (.int .u8) (.pair (.int .u8) (.pair (.int .u8) (.pair (.int .u8) (.pair (.int .u8) (.pair (.int .u8) (.pair (.int .u8) (.pair (.int .u8) (.pair (.int .u8) (.pair (.int .u8) (.pair (.int .u8) (.pair (.int .u8) (.pair (.int .u8) (.pair (.int .u8) (.pair (.int .u8) (.pair (.int .u8) (.pair (.int .u8) (.pair (.int .u8) (.int .u8)))))))))))))))))))))))))))))))) (.pair (.int .i64) .bool))) (.sl (.pair (.pair (.int .u8) (.pair (.int .u8) (.pair (.int .u8) (.pair (.int .u8) (.pair (.int .u8) (.pair (.int .u8) (.pair (.int .u8) (.pair (.int .u8) (.pair (.int .u8) (.pair (.int .u8) (.pair (.int .u8) (.pair (.int .u8) (.pair (.int .u8) (.pair (.int .u8) (.pair (.int .u8) (.pair (.int .u8) (.pair (.int .u8) (.pair (.int .u8) (.pair (.int .u8) (.pair (.int .u8) (.pair (.int .u8) (.pair (.int .u8) (.pair (.int .u8) (.pair (.int .u8) (.pair (.int .u8) (.pair (.int .u8) (.pair (.int .u8) (.pair (.int .u8) (.pair (.int .u8) (.pair (.int .u8) (.pair (.int .u8) (.int .u8)))))))))))))))))))))))))))))))) (.pair (.int .i64) .bool))))))],boxes:=[],res:=[.row (.pair (.sl (.pair (.int .i64) (.sl (.pair .bool (.pair .str .str))))) (.pair (.sl (.pair (.int .i64) (.pair (.int .i64) (.pair (.int .i64) (.pair (.pair (.int .i64) (.int .i64)) (.pair (.int .i64) (.pair (.sl (.pair (.int .i64) (.pair .str (.int .i64)))) (.pair .str (.pair (.int .i64) .bool))))))))) (.int .i64))),.one (.i .i64)],bf:=[],aB:=[] }
def L7:Nat→Option aX:=fun n=>match n with
 |0=>some { head:={ live:=[0,1,4,21,22,23],aO:=[(.loc 4)],vs:=[.slot 23 (.i .i64)] },bT:=[(.ret,{ live:=[4,5],aO:=[(.loc 4)],vs:=[.slot 5 (.i .i64),.cell (.loc 4) 0 (.n .own (.pair (.int .i64) (.sl (.pair .bool (.pair .str .str))))),.cell (.loc 4) 1 (.n .own (.pair (.int .i64) (.pair (.int .i64) (.pair (.int .i64) (.pair (.pair (.int .i64) (.int .i64)) (.pair (.int .i64) (.pair (.sl (.pair (.int .i64) (.pair .str (.int .i64)))) (.pair .str (.pair (.int .i64) .bool))))))))),.cell (.loc 4) 2 (.i .i64)] }),(.exit 0,{ live:=[0,1,4],aO:=[(.loc 4)],vs:=[] })] }
 |1=>some { head:={ live:=[1,4,9,37,38,39],aO:=[(.loc 4),(.loc 9)],vs:=[.slot 39 (.i .i64),.cell (.loc 9) 0 (.n .own (.pair (.int .i64) (.sl (.pair .bool (.pair .str .str))))),.cell (.loc 9) 1 (.n .own (.pair (.int .i64) (.pair (.int .i64) (.pair (.int .i64) (.pair (.pair (.int .i64) (.int .i64)) (.pair (.int .i64) (.pair (.sl (.pair (.int .i64) (.pair .str (.int .i64)))) (.pair .str (.pair (.int .i64) .bool))))))))),.cell (.loc 9) 2 (.i .i64)] },bT:=[(.exit 2,{ live:=[4,9],aO:=[(.loc 4),(.loc 9)],vs:=[.cell (.loc 9) 0 (.n .own (.pair (.int .i64) (.sl (.pair .bool (.pair .str .str))))),.cell (.loc 9) 1 (.n .own (.pair (.int .i64) (.pair (.int .i64) (.pair (.int .i64) (.pair (.pair (.int .i64) (.int .i64)) (.pair (.int .i64) (.pair (.sl (.pair (.int .i64) (.pair .str (.int .i64)))) (.pair .str (.pair (.int .i64) .bool))))))))),.cell (.loc 9) 2 (.i .i64)] })] }
 |2=>some { head:={ live:=[1,4,9,10,12,37,38,39,47,48,49],aO:=[(.loc 4),(.loc 9)],vs:=[.slot 49 (.i .i64),.cell (.loc 9) 0 (.n .own (.pair (.int .i64) (.sl (.pair .bool (.pair .str .str))))),.cell (.loc 9) 1 (.n .own (.pair (.int .i64) (.pair (.int .i64) (.pair (.int .i64) (.pair (.pair (.int .i64) (.int .i64)) (.pair (.int .i64) (.pair (.sl (.pair (.int .i64) (.pair .str (.int .i64)))) (.pair .str (.pair (.int .i64) .bool))))))))),.cell (.loc 9) 2 (.i .i64)] },bT:=[(.exit 4,{ live:=[1,4,9,37,38,39],aO:=[(.loc 4),(.loc 9)],vs:=[.cell (.loc 9) 0 (.n .own (.pair (.int .i64) (.sl (.pair .bool (.pair .str .str))))),.cell (.loc 9) 1 (.n .own (.pair (.int .i64) (.pair (.int .i64) (.pair (.int .i64) (.pair (.pair (.int .i64) (.int .i64)) (.pair (.int .i64) (.pair (.sl (.pair (.int .i64) (.pair .str (.int .i64)))) (.pair .str (.pair (.int .i64) .bool))))))))),.cell (.loc 9) 2 (.i .i64)] })] }
 |3=>some { head:={ live:=[1,4,9,10,12,14,37,38,39,47,48,49,57,58,59],aO:=[(.loc 4),(.loc 9)],vs:=[.slot 59 (.i .i64),.cell (.loc 9) 0 (.n .own (.pair (.int .i64) (.sl (.pair .bool (.pair .str .str))))),.cell (.loc 9) 1 (.n .own (.pair (.int .i64) (.pair (.int .i64) (.pair (.int .i64) (.pair (.pair (.int .i64) (.int .i64)) (.pair (.int .i64) (.pair (.sl (.pair (.int .i64) (.pair .str (.int .i64)))) (.pair .str (.pair (.int .i64) .bool))))))))),.cell (.loc 9) 2 (.i .i64)] },bT:=[(.exit 6,{ live:=[1,4,9,10,12,37,38,39,47,48,49],aO:=[(.loc 4),(.loc 9)],vs:=[.cell (.loc 9) 0 (.n .own (.pair (.int .i64) (.sl (.pair .bool (.pair .str .str))))),.cell (.loc 9) 1 (.n .own (.pair (.int .i64) (.pair (.int .i64) (.pair (.int .i64) (.pair (.pair (.int .i64) (.int .i64)) (.pair (.int .i64) (.pair (.sl (.pair (.int .i64) (.pair .str (.int .i64)))) (.pair .str (.pair (.int .i64) .bool))))))))),.cell (.loc 9) 2 (.i .i64)] })] }
 |_=>none
set_option maxRecDepth 100000 in
theorem aFw:∀x,bF F7 L7 f7 S7 x=(fun x=>xW x.1 x.2) x:=by
 intro x
 kernel_rfl
theorem fn7:bh prog 7 (S7.F (fun x=>xW x.1 x.2)):=bG (F:=F7) (tbl:=L7) func7 (by kernel_rfl) mix (bH (l:=[(13,C13),(14,alL),(15,C15),(16,sq),(17,C17)]) (bE rfl rfl) rfl (List.forall_mem_cons.2 ⟨G13,List.forall_mem_cons.2 ⟨aFd,List.forall_mem_cons.2 ⟨G15,List.forall_mem_cons.2 ⟨G16,List.forall_mem_cons.2 ⟨G17,by simp⟩⟩⟩⟩⟩)) (by kernel_rfl) (by kernel_rfl) (by decide) (fun _=>by kernel_rfl) aFw
def C7:aV:=S7.az (by kernel_rfl) (fun x=>xW x.1 x.2)
theorem G7:bq prog (7,C7):=bI func7 (by kernel_rfl) (by kernel_rfl) fn7
def F8:aZ:={ cfg:={ N:=4,T:=T,R:=R,az:=fun _ f=>bA f [],var:=[0,1,2],res:=[2],eqs:=EQ,dat:=[1,2],bK:=true },keys:=[0,2,3],aQ:=[] }
def S8:aF:={ args:=[.one .b],boxes:=[],res:=[.one (.i .i64)],bf:=[],aB:=[] }
def L8:Nat→Option aX:=fun _=>none
set_option maxRecDepth 100000 in
theorem aFy:∀x,bF F8 L8 f8 S8 x=(fun x=>xh x) x:=by
 intro x
 kernel_rfl
theorem fn8:bh prog 8 (S8.F (fun x=>xh x)):=bG (F:=F8) (tbl:=L8) func8 (by kernel_rfl) mix (bH (l:=[]) (bE rfl rfl) rfl (by simp)) (by kernel_rfl) (by kernel_rfl) (by decide) (fun _=>by kernel_rfl) aFy
def C8:aV:=S8.az (by kernel_rfl) (fun x=>xh x)
theorem G8:bq prog (8,C8):=bI func8 (by kernel_rfl) (by kernel_rfl) fn8
end Go.Proofs.YtmoineigflegeaaGreatDoor.vd
namespace Go.Proofs.YtmoineigflegeaaGreatDoor.ve
open Go Go.Vs Go.Ve Go.Fn Go.Proofs.Tryz
def T:List (TypeId×TI):=[(289,⟨20,160,.array 20 253,(some [.int .u64 0,.int .u64 0,.int .u64 0,.int .u64 0,.int .u64 0,.int .u64 0,.int .u64 0,.int .u64 0,.int .u64 0,.int .u64 0,.int .u64 0,.int .u64 0,.int .u64 0,.int .u64 0,.int .u64 0,.int .u64 0,.int .u64 0,.int .u64 0,.int .u64 0,.int .u64 0])⟩),
 (2,⟨1,8,.int .i64,(some [.int .i64 0])⟩),
 (3,⟨1,8,.int .i64,(some [.int .i64 0])⟩),
 (4,⟨1,1,.bool,(some [.bool false])⟩),
 (5,⟨1,1,.int .u8,(some [.int .u8 0])⟩),
 (9,⟨1,16,.str,(some [.str []])⟩),
 (23,⟨1,24,.slice 68,(some [.nil])⟩),
 (25,⟨2,32,.struct [(0,3),(1,23)],(some [.int .i64 0,.nil])⟩),
 (26,⟨1,8,.int .i64,(some [.int .i64 0])⟩),
 (29,⟨1,24,.slice 25,(some [.nil])⟩),
 (30,⟨1,24,.slice 55,(some [.nil])⟩),
 (32,⟨3,56,.struct [(0,29),(1,30),(2,3)],(some [.nil,.nil,.int .i64 0])⟩),
 (36,⟨1,24,.slice 3,(some [.nil])⟩),
 (43,⟨1,24,.slice 96,(some [.nil])⟩),
 (46,⟨1,8,.map 3 51,(some [.aK .map])⟩),
 (49,⟨1,24,.slice 53,(some [.nil])⟩),
 (51,⟨1,24,.slice 107,(some [.nil])⟩),
 (53,⟨2,16,.struct [(0,3),(1,3)],(some [.int .i64 0,.int .i64 0])⟩),
 (55,⟨10,104,.struct [(0,3),(1,3),(2,3),(3,53),(5,3),(6,51),(7,9),(8,3),(9,4)],(some [.int .i64 0,.int .i64 0,.int .i64 0,.int .i64 0,.int .i64 0,.int .i64 0,.nil,.str [],.int .i64 0,.bool false])⟩),
 (56,⟨1,8,.ptr 85,(some [.aK .ptr])⟩),
 (68,⟨3,40,.struct [(0,4),(1,9),(2,9)],(some [.bool false,.str [],.str []])⟩),
 (77,⟨1,24,.slice 4,(some [.nil])⟩),
 (83,⟨1,8,.map 87 51,(some [.aK .map])⟩),
 (85,⟨4,64,.struct [(0,32),(3,83)],(some [.nil,.nil,.int .i64 0,.aK .map])⟩),
 (87,⟨2,16,.struct [(0,3),(1,3)],(some [.int .i64 0,.int .i64 0])⟩),
 (88,⟨1,8,.map 3 90,(some [.aK .map])⟩),
 (90,⟨0,0,.struct [],(some [])⟩),
 (91,⟨32,32,.array 32 5,(some [.int .u8 0,.int .u8 0,.int .u8 0,.int .u8 0,.int .u8 0,.int .u8 0,.int .u8 0,.int .u8 0,.int .u8 0,.int .u8 0,.int .u8 0,.int .u8 0,.int .u8 0,.int .u8 0,.int .u8 0,.int .u8 0,.int .u8 0,.int .u8 0,.int .u8 0,.int .u8 0,.int .u8 0,.int .u8 0,.int .u8 0,.int .u8 0,.int .u8 0,.int .u8 0,.int .u8 0,.int .u8 0,.int .u8 0,.int .u8 0,.int .u8 0,.int .u8 0])⟩),
 (93,⟨34,48,.struct [(0,91),(32,3),(33,4)],(some [.int .u8 0,.int .u8 0,.int .u8 0,.int .u8 0,.int .u8 0,.int .u8 0,.int .u8 0,.int .u8 0,.int .u8 0,.int .u8 0,.int .u8 0,.int .u8 0,.int .u8 0,.int .u8 0,.int .u8 0,.int .u8 0,.int .u8 0,.int .u8 0,.int .u8 0,.int .u8 0,.int .u8 0,.int .u8 0,.int .u8 0,.int .u8 0,.int .u8 0,.int .u8 0,.int .u8 0,.int .u8 0,.int .u8 0,.int .u8 0,.int .u8 0,.int .u8 0,.int .i64 0,.bool false])⟩),
 (94,⟨1,24,.slice 93,(some [.nil])⟩),
 (96,⟨3,56,.struct [(0,4),(1,94),(2,94)],(some [.bool false,.nil,.nil])⟩),
 (107,⟨3,32,.struct [(0,3),(1,9),(2,3)],(some [.int .i64 0,.str [],.int .i64 0])⟩),
 (122,⟨1,24,.slice 5,(some [.nil])⟩),
 (185,⟨3,72,.struct [(0,51),(1,122),(2,36)],(some [.nil,.nil,.nil])⟩),
 (193,⟨1,8,.ptr 185,(some [.aK .ptr])⟩),
 (212,⟨1,8,.map 3 4,(some [.aK .map])⟩),
 (213,⟨1,8,.map 3 3,(some [.aK .map])⟩),
 (252,⟨24,24,.array 24 5,(some [.int .u8 0,.int .u8 0,.int .u8 0,.int .u8 0,.int .u8 0,.int .u8 0,.int .u8 0,.int .u8 0,.int .u8 0,.int .u8 0,.int .u8 0,.int .u8 0,.int .u8 0,.int .u8 0,.int .u8 0,.int .u8 0,.int .u8 0,.int .u8 0,.int .u8 0,.int .u8 0,.int .u8 0,.int .u8 0,.int .u8 0,.int .u8 0])⟩),
 (253,⟨1,8,.int .u64,(some [.int .u64 0])⟩)]
def R:List (TypeId×Ty):=[(2,(.int .i64)),
 (3,(.int .i64)),
 (4,.bool),
 (5,(.int .u8)),
 (9,.str),
 (23,(.sl (.pair .bool (.pair .str .str)))),
 (25,(.pair (.int .i64) (.sl (.pair .bool (.pair .str .str))))),
 (26,(.int .i64)),
 (29,(.sl (.pair (.int .i64) (.sl (.pair .bool (.pair .str .str)))))),
 (30,(.sl (.pair (.int .i64) (.pair (.int .i64) (.pair (.int .i64) (.pair (.pair (.int .i64) (.int .i64)) (.pair (.int .i64) (.pair (.sl (.pair (.int .i64) (.pair .str (.int .i64)))) (.pair .str (.pair (.int .i64) .bool)))))))))),
 (32,(.pair (.sl (.pair (.int .i64) (.sl (.pair .bool (.pair .str .str))))) (.pair (.sl (.pair (.int .i64) (.pair (.int .i64) (.pair (.int .i64) (.pair (.pair (.int .i64) (.int .i64)) (.pair (.int .i64) (.pair (.sl (.pair (.int .i64) (.pair .str (.int .i64)))) (.pair .str (.pair (.int .i64) .bool))))))))) (.int .i64)))),
 (36,(.sl (.int .i64))),
 (43,(.sl (.pair .bool (.pair (.sl (.pair (.pair (.int .u8) (.pair (.int .u8) (.pair (.int .u8) (.pair (.int .u8) (.pair (.int .u8) (.pair (.int .u8) (.pair (.int .u8) (.pair (.int .u8) (.pair (.int .u8) (.pair (.int .u8) (.pair (.int .u8) (.pair (.int .u8) (.pair (.int .u8) (.pair (.int .u8) (.pair (.int .u8) (.pair (.int .u8) (.pair (.int .u8) (.pair (.int .u8) (.pair (.int .u8) (.pair (.int .u8) (.pair (.int .u8) (.pair (.int .u8) (.pair (.int .u8) (.pair (.int .u8) (.pair (.int .u8) (.pair (.int .u8) (.pair (.int .u8) (.pair (.int .u8) (.pair (.int .u8) (.pair (.int .u8) (.pair (.int .u8) (.int .u8)))))))))))))))))))))))))))))))) (.pair (.int .i64) .bool))) (.sl (.pair (.pair (.int .u8) (.pair (.int .u8) (.pair (.int .u8) (.pair (.int .u8) (.pair (.int .u8) (.pair (.int .u8) (.pair (.int .u8) (.pair (.int .u8) (.pair (.int .u8) (.pair (.int .u8) (.pair (.int .u8) (.pair (.int .u8) (.pair (.int .u8) (.pair (.int .u8) (.pair (.int .u8) (.pair (.int .u8) (.pair (.int .u8) (.pair (.int .u8) (.pair (.int .u8) (.pair (.int .u8) (.pair (.int .u8) (.pair (.int .u8) (.pair (.int .u8) (.pair (.int .u8) (.pair (.int .u8) (.pair (.int .u8) (.pair (.int .u8) (.pair (.int .u8) (.pair (.int .u8) (.pair (.int .u8) (.pair (.int .u8) (.int .u8)))))))))))))))))))))))))))))))) (.pair (.int .i64) .bool))))))),
 (46,(.aU false (.int .i64) (.sl (.pair (.int .i64) (.pair .str (.int .i64)))))),
 (49,(.sl (.pair (.int .i64) (.int .i64)))),
 (51,(.sl (.pair (.int .i64) (.pair .str (.int .i64))))),
 (53,(.pair (.int .i64) (.int .i64))),
 (55,(.pair (.int .i64) (.pair (.int .i64) (.pair (.int .i64) (.pair (.pair (.int .i64) (.int .i64)) (.pair (.int .i64) (.pair (.sl (.pair (.int .i64) (.pair .str (.int .i64)))) (.pair .str (.pair (.int .i64) .bool))))))))),
 (68,(.pair .bool (.pair .str .str))),
 (77,(.sl .bool)),
 (83,(.aU false (.pair (.int .i64) (.int .i64)) (.sl (.pair (.int .i64) (.pair .str (.int .i64)))))),
 (85,(.pair (.pair (.sl (.pair (.int .i64) (.sl (.pair .bool (.pair .str .str))))) (.pair (.sl (.pair (.int .i64) (.pair (.int .i64) (.pair (.int .i64) (.pair (.pair (.int .i64) (.int .i64)) (.pair (.int .i64) (.pair (.sl (.pair (.int .i64) (.pair .str (.int .i64)))) (.pair .str (.pair (.int .i64) .bool))))))))) (.int .i64))) (.sl (.aU false (.pair (.int .i64) (.int .i64)) (.sl (.pair (.int .i64) (.pair .str (.int .i64)))))))),
 (87,(.pair (.int .i64) (.int .i64))),
 (88,(.set (.int .i64))),
 (91,(.pair (.int .u8) (.pair (.int .u8) (.pair (.int .u8) (.pair (.int .u8) (.pair (.int .u8) (.pair (.int .u8) (.pair (.int .u8) (.pair (.int .u8) (.pair (.int .u8) (.pair (.int .u8) (.pair (.int .u8) (.pair (.int .u8) (.pair (.int .u8) (.pair (.int .u8) (.pair (.int .u8) (.pair (.int .u8) (.pair (.int .u8) (.pair (.int .u8) (.pair (.int .u8) (.pair (.int .u8) (.pair (.int .u8) (.pair (.int .u8) (.pair (.int .u8) (.pair (.int .u8) (.pair (.int .u8) (.pair (.int .u8) (.pair (.int .u8) (.pair (.int .u8) (.pair (.int .u8) (.pair (.int .u8) (.pair (.int .u8) (.int .u8))))))))))))))))))))))))))))))))),
 (93,(.pair (.pair (.int .u8) (.pair (.int .u8) (.pair (.int .u8) (.pair (.int .u8) (.pair (.int .u8) (.pair (.int .u8) (.pair (.int .u8) (.pair (.int .u8) (.pair (.int .u8) (.pair (.int .u8) (.pair (.int .u8) (.pair (.int .u8) (.pair (.int .u8) (.pair (.int .u8) (.pair (.int .u8) (.pair (.int .u8) (.pair (.int .u8) (.pair (.int .u8) (.pair (.int .u8) (.pair (.int .u8) (.pair (.int .u8) (.pair (.int .u8) (.pair (.int .u8) (.pair (.int .u8) (.pair (.int .u8) (.pair (.int .u8) (.pair (.int .u8) (.pair (.int .u8) (.pair (.int .u8) (.pair (.int .u8) (.pair (.int .u8) (.int .u8)))))))))))))))))))))))))))))))) (.pair (.int .i64) .bool))),
 (94,(.sl (.pair (.pair (.int .u8) (.pair (.int .u8) (.pair (.int .u8) (.pair (.int .u8) (.pair (.int .u8) (.pair (.int .u8) (.pair (.int .u8) (.pair (.int .u8) (.pair (.int .u8) (.pair (.int .u8) (.pair (.int .u8) (.pair (.int .u8) (.pair (.int .u8) (.pair (.int .u8) (.pair (.int .u8) (.pair (.int .u8) (.pair (.int .u8) (.pair (.int .u8) (.pair (.int .u8) (.pair (.int .u8) (.pair (.int .u8) (.pair (.int .u8) (.pair (.int .u8) (.pair (.int .u8) (.pair (.int .u8) (.pair (.int .u8) (.pair (.int .u8) (.pair (.int .u8) (.pair (.int .u8) (.pair (.int .u8) (.pair (.int .u8) (.int .u8)))))))))))))))))))))))))))))))) (.pair (.int .i64) .bool)))),
 (96,(.pair .bool (.pair (.sl (.pair (.pair (.int .u8) (.pair (.int .u8) (.pair (.int .u8) (.pair (.int .u8) (.pair (.int .u8) (.pair (.int .u8) (.pair (.int .u8) (.pair (.int .u8) (.pair (.int .u8) (.pair (.int .u8) (.pair (.int .u8) (.pair (.int .u8) (.pair (.int .u8) (.pair (.int .u8) (.pair (.int .u8) (.pair (.int .u8) (.pair (.int .u8) (.pair (.int .u8) (.pair (.int .u8) (.pair (.int .u8) (.pair (.int .u8) (.pair (.int .u8) (.pair (.int .u8) (.pair (.int .u8) (.pair (.int .u8) (.pair (.int .u8) (.pair (.int .u8) (.pair (.int .u8) (.pair (.int .u8) (.pair (.int .u8) (.pair (.int .u8) (.int .u8)))))))))))))))))))))))))))))))) (.pair (.int .i64) .bool))) (.sl (.pair (.pair (.int .u8) (.pair (.int .u8) (.pair (.int .u8) (.pair (.int .u8) (.pair (.int .u8) (.pair (.int .u8) (.pair (.int .u8) (.pair (.int .u8) (.pair (.int .u8) (.pair (.int .u8) (.pair (.int .u8) (.pair (.int .u8) (.pair (.int .u8) (.pair (.int .u8) (.pair (.int .u8) (.pair (.int .u8) (.pair (.int .u8) (.pair (.int .u8) (.pair (.int .u8) (.pair (.int .u8) (.pair (.int .u8) (.pair (.int .u8) (.pair (.int .u8) (.pair (.int .u8) (.pair (.int .u8) (.pair (.int .u8) (.pair (.int .u8) (.pair (.int .u8) (.pair (.int .u8) (.pair (.int .u8) (.pair (.int .u8) (.int .u8)))))))))))))))))))))))))))))))) (.pair (.int .i64) .bool)))))),
 (107,(.pair (.int .i64) (.pair .str (.int .i64)))),
 (122,(.sl (.int .u8))),
 (185,(.pair (.sl (.pair (.int .i64) (.pair .str (.int .i64)))) (.pair (.sl (.int .u8)) (.sl (.int .i64))))),
 (212,(.aU false (.int .i64) .bool)),
 (213,(.aU false (.int .i64) (.int .i64))),
 (252,(.pair (.int .u8) (.pair (.int .u8) (.pair (.int .u8) (.pair (.int .u8) (.pair (.int .u8) (.pair (.int .u8) (.pair (.int .u8) (.pair (.int .u8) (.pair (.int .u8) (.pair (.int .u8) (.pair (.int .u8) (.pair (.int .u8) (.pair (.int .u8) (.pair (.int .u8) (.pair (.int .u8) (.pair (.int .u8) (.pair (.int .u8) (.pair (.int .u8) (.pair (.int .u8) (.pair (.int .u8) (.pair (.int .u8) (.pair (.int .u8) (.pair (.int .u8) (.int .u8))))))))))))))))))))))))),
 (253,(.int .u64))]
def cN {α:Type} (p:α→Prop):List α→Prop
 | []=>True
 |a :: r=>p a∧cN p r
theorem cN.mem {α:Type} {p:α→Prop}:∀{l:List α},cN p l→∀x∈l,p x
 |_ :: _,h,_,.head _=>h.1
 |_ :: _,h,_,.tail _ hx=>cN.mem h.2 _ hx
set_option maxRecDepth 100000 in
theorem abj:cN (fun x=>ay prog x.1=some x.2) T:=⟨by show ay prog _=some _;kernel_rfl,by show ay prog _=some _;kernel_rfl,by show ay prog _=some _;kernel_rfl,by show ay prog _=some _;kernel_rfl,by show ay prog _=some _;kernel_rfl,by show ay prog _=some _;kernel_rfl,by show ay prog _=some _;kernel_rfl,by show ay prog _=some _;kernel_rfl,by show ay prog _=some _;kernel_rfl,by show ay prog _=some _;kernel_rfl,by show ay prog _=some _;kernel_rfl,by show ay prog _=some _;kernel_rfl,by show ay prog _=some _;kernel_rfl,by show ay prog _=some _;kernel_rfl,by show ay prog _=some _;kernel_rfl,by show ay prog _=some _;kernel_rfl,by show ay prog _=some _;kernel_rfl,by show ay prog _=some _;kernel_rfl,by show ay prog _=some _;kernel_rfl,by show ay prog _=some _;kernel_rfl,by show ay prog _=some _;kernel_rfl,by show ay prog _=some _;kernel_rfl,by show ay prog _=some _;kernel_rfl,by show ay prog _=some _;kernel_rfl,by show ay prog _=some _;kernel_rfl,by show ay prog _=some _;kernel_rfl,by show ay prog _=some _;kernel_rfl,by show ay prog _=some _;kernel_rfl,by show ay prog _=some _;kernel_rfl,by show ay prog _=some _;kernel_rfl,by show ay prog _=some _;kernel_rfl,by show ay prog _=some _;kernel_rfl,by show ay prog _=some _;kernel_rfl,by show ay prog _=some _;kernel_rfl,by show ay prog _=some _;kernel_rfl,by show ay prog _=some _;kernel_rfl,by show ay prog _=some _;kernel_rfl,by show ay prog _=some _;kernel_rfl,by show ay prog _=some _;kernel_rfl,trivial⟩
theorem kW {α:Type} {t:Nat} {v:α}:∀{l:List (Nat×α)},lk t l=some v→(t,v)∈l
 |(u,w) :: l,h=>by
  unfold lk at h
  split at h
  ·rename_i e;cases h;subst e;simp
  ·exact List.mem_cons_of_mem _ (kW h)
def EQ:List (TypeId×List Sc):=[(53,[.int .i64,.int .i64]),(68,[.bool,.str,.str]),(87,[.int .i64,.int .i64]),(107,[.int .i64,.str,.int .i64])]
theorem abk:cN (fun x=>sW prog x.1 x.2) EQ:=⟨ji (by kernel_rfl) (by kernel_rfl) (by kernel_rfl) (by kernel_rfl),ji (by kernel_rfl) (by kernel_rfl) (by kernel_rfl) (by kernel_rfl),ji (by kernel_rfl) (by kernel_rfl) (by kernel_rfl) (by kernel_rfl),ji (by kernel_rfl) (by kernel_rfl) (by kernel_rfl) (by kernel_rfl),trivial⟩
def GT:List (Nat×List Int):=[(1,[1,10,100,1000,10000,100000,1000000,10000000,100000000,1000000000,10000000000,100000000000,1000000000000,10000000000000,100000000000000,1000000000000000,10000000000000000,100000000000000000,1000000000000000000,10000000000000000000])]
set_option maxRecDepth 100000 in
theorem afE:cN (fun x=>(x.1,x.2.map fun n=>Value.int .u64 n)∈oM prog) GT:=⟨List.mem_of_getElem? (i:=0) (by kernel_rfl),trivial⟩
theorem bE {cfg:aP} (h:cfg.T=T) (he:(cfg.eqs==[]||cfg.eqs==EQ)=true) (hg:(cfg.nB==[]||cfg.nB==GT)=true:=by rfl):eS prog cfg:=
 ⟨fun t i hi=>cN.mem abj (t,i) (kW (by rw[←h];exact hi)),fun t sh ht=>by
  rw[Bool.or_eq_true,beq_iff_eq,beq_iff_eq]at he
  rcases he with he|he
  ·rw[he]at ht;cases ht
  ·rw[he]at ht;exact cN.mem abk (t,sh) (kW ht),fun g l hl=>by
  rw[Bool.or_eq_true,beq_iff_eq,beq_iff_eq]at hg
  rcases hg with hg|hg
  ·rw[hg]at hl;cases hl
  ·rw[hg]at hl;exact cN.mem afE (g,l) (kW hl)⟩
theorem mix:prog.follows .mixedOrders=true:=by kernel_rfl
def F56:aZ:={ cfg:={ N:=103,T:=T,R:=R,az:=fun _ f=>bA f [],var:=[0,1,2,3,4,5,6,7,8],res:=[4,5,6],eqs:=EQ },keys:=[0,1,4,5,6,7,8,20,46,50,58,82],aQ:=[] }
def uL:aF:={ args:=[.one .s,.one (.i .i64)],boxes:=[],res:=[.one (.i .i64),.one .b,.one .b],bf:=[],aB:=[] }
def L56:Nat→Option aX:=fun n=>match n with
 |0=>some { head:={ live:=[0,7,8],aO:=[],vs:=[.slot 8 (.i .i64)] },bT:=[(.exit 0,{ live:=[0,7,8],aO:=[],vs:=[.slot 8 (.i .i64)] })] }
 |1=>some { head:={ live:=[0,7,8],aO:=[],vs:=[.slot 8 (.i .i64)] },bT:=[(.exit 2,{ live:=[0,7,8],aO:=[],vs:=[.slot 8 (.i .i64)] })] }
 |_=>none
set_option maxRecDepth 100000 in
theorem aj4:∀x,bF F56 L56 f56 uL x=(fun x=>lY x.1 x.2) x:=by
 intro x
 kernel_rfl
theorem aj5:bh prog 56 (uL.F (fun x=>lY x.1 x.2)):=bG (F:=F56) (tbl:=L56) func56 (by kernel_rfl) mix (bH (l:=[]) (bE rfl rfl) rfl (by simp)) (by kernel_rfl) (by kernel_rfl) (by decide) (fun _=>by kernel_rfl) aj4
def xZ:aV:=uL.az (by kernel_rfl) (fun x=>lY x.1 x.2)
theorem G56:bq prog (56,xZ):=bI func56 (by kernel_rfl) (by kernel_rfl) aj5
def uW:aF:={ args:=[.one .s,.one (.i .u8)],res:=[.one (.i .i64)] }
theorem akN:fO prog 194 (uW.F fun x=>uF x.1 x.2):=by
 intro args boxes r h
 unfold aF.F at h
 split at h
 ·rename_i z hz
  obtain⟨s,c⟩:=z
  obtain⟨h1,h2⟩:=aF.hO uW (by kernel_rfl) hz
  subst h1 h2
  cases h
  exact vx.akI _ _ _ rfl
 ·cases h
def uX:aV:=uW.az (by kernel_rfl) (fun x=>uF x.1 x.2)
theorem akO:bq prog (194,uX):=akN
def abF:aZ:={ cfg:={ N:=8,T:=T,R:=R,az:=fun _ f=>bA f [(194,uX)],var:=[0,1,2,3,4],res:=[4],eqs:=EQ },keys:=[0,1,4],aQ:=[] }
def uY:aF:={ args:=[.one .s,.one (.i .u8)],boxes:=[],res:=[.one (.i .i64)],bf:=[],aB:=[] }
def abG:Nat→Option aX:=fun _=>none
set_option maxRecDepth 100000 in
theorem akP:∀x,bF abF abG f167 uY x=(fun x=>pT x.1 x.2) x:=by
 intro x
 kernel_rfl
theorem akQ:bh prog 167 (uY.F (fun x=>pT x.1 x.2)):=bG (F:=abF) (tbl:=abG) func167 (by kernel_rfl) mix (bH (l:=[(194,uX)]) (bE rfl rfl) rfl (List.forall_mem_cons.2 ⟨akO,by simp⟩)) (by kernel_rfl) (by kernel_rfl) (by decide) (fun _=>by kernel_rfl) akP
def sj:aV:=uY.az (by kernel_rfl) (fun x=>pT x.1 x.2)
theorem afJ:bq prog (167,sj):=bI func167 (by kernel_rfl) (by kernel_rfl) akQ
def abH:aZ:={ cfg:={ N:=8,T:=T,R:=R,az:=fun _ f=>bA f [(167,sj)],var:=[0,1,2,3,4],res:=[4],eqs:=EQ },keys:=[0,1,4],aQ:=[] }
def uZ:aF:={ args:=[.one .s,.one (.i .u8)],boxes:=[],res:=[.one (.i .i64)],bf:=[],aB:=[] }
def abI:Nat→Option aX:=fun _=>none
set_option maxRecDepth 100000 in
theorem akR:∀x,bF abH abI f165 uZ x=(fun x=>j4 x.1 x.2) x:=by
 intro x
 kernel_rfl
theorem akS:bh prog 165 (uZ.F (fun x=>j4 x.1 x.2)):=bG (F:=abH) (tbl:=abI) func165 (by kernel_rfl) mix (bH (l:=[(167,sj)]) (bE rfl rfl) rfl (List.forall_mem_cons.2 ⟨afJ,by simp⟩)) (by kernel_rfl) (by kernel_rfl) (by decide) (fun _=>by kernel_rfl) akR
def oD:aV:=uZ.az (by kernel_rfl) (fun x=>j4 x.1 x.2)
theorem abJ:bq prog (165,oD):=bI func165 (by kernel_rfl) (by kernel_rfl) akS
def abK:aZ:={ cfg:={ N:=81,T:=T,R:=R,az:=fun _ f=>bA f [(165,oD)],var:=[0,1,2,3,4,5,6],res:=[4,5,6],eqs:=EQ },keys:=[0,1,4,5,6,17,23,27,41,47,60],aQ:=[] }
def u5:aF:={ args:=[.one .s,.one (.i .i64)],boxes:=[],res:=[.one (.i .i64),.one .b,.one .b],bf:=[],aB:=[] }
def abL:Nat→Option aX:=fun n=>match n with
 |0=>some { head:={ live:=[0,4,5],aO:=[],vs:=[.slot 4 (.i .i64)] },bT:=[(.exit 0,{ live:=[0,4,5],aO:=[],vs:=[.slot 4 (.i .i64)] })] }
 |1=>some { head:={ live:=[0,4,5],aO:=[],vs:=[.slot 4 (.i .i64)] },bT:=[(.exit 2,{ live:=[0,4,5],aO:=[],vs:=[.slot 4 (.i .i64)] })] }
 |_=>none
set_option maxRecDepth 100000 in
theorem akT:∀x,bF abK abL f145 u5 x=(fun x=>mc x.1 x.2) x:=by
 intro x
 kernel_rfl
theorem akU:bh prog 145 (u5.F (fun x=>mc x.1 x.2)):=bG (F:=abK) (tbl:=abL) func145 (by kernel_rfl) mix (bH (l:=[(165,oD)]) (bE rfl rfl) rfl (List.forall_mem_cons.2 ⟨abJ,by simp⟩)) (by kernel_rfl) (by kernel_rfl) (by decide) (fun _=>by kernel_rfl) akT
def yb:aV:=u5.az (by kernel_rfl) (fun x=>mc x.1 x.2)
theorem akV:bq prog (145,yb):=bI func145 (by kernel_rfl) (by kernel_rfl) akU
def F29:aZ:={ cfg:={ N:=26,T:=T,R:=R,az:=fun _ f=>bA f [],var:=[0,1,2,3,4,5],res:=[4],eqs:=EQ },keys:=[0,1,4,5,10,12,13,14,24],aQ:=[] }
def u6:aF:={ args:=[.one (.n .data (.pair .bool (.pair .str .str))),.one (.n .data (.pair .bool (.pair .str .str)))],boxes:=[],res:=[.one .b],bf:=[],aB:=[] }
def L29:Nat→Option aX:=fun n=>match n with
 |0=>some { head:={ live:=[0,1,12,13],aO:=[],vs:=[.slot 13 (.i .i64)] },bT:=[(.ret,{ live:=[4],aO:=[],vs:=[.slot 4 .b] }),(.exit 0,{ live:=[],aO:=[],vs:=[] })] }
 |_=>none
set_option maxRecDepth 100000 in
theorem alw:∀x,bF F29 L29 f29 u6 x=(fun x=>oA x.1 x.2) x:=by
 intro x
 kernel_rfl
theorem alx:bh prog 29 (u6.F (fun x=>oA x.1 x.2)):=bG (F:=F29) (tbl:=L29) func29 (by kernel_rfl) mix (bH (l:=[]) (bE rfl rfl) rfl (by simp)) (by kernel_rfl) (by kernel_rfl) (by decide) (fun _=>by kernel_rfl) alw
def yd:aV:=u6.az (by kernel_rfl) (fun x=>oA x.1 x.2)
theorem G29:bq prog (29,yd):=bI func29 (by kernel_rfl) (by kernel_rfl) alx
def F67:aZ:={ cfg:={ N:=9,T:=T,R:=R,az:=fun _ f=>bA f [],var:=[0,1,2],res:=[2],eqs:=EQ },keys:=[0,1,2,5],aQ:=[.loc 1] }
def vh:aF:={ args:=[.row (.pair (.int .i64) (.pair .str (.int .i64)))],boxes:=[],res:=[.one (.i .i64)],bf:=[],aB:=[] }
def L67:Nat→Option aX:=fun _=>none
set_option maxRecDepth 100000 in
theorem al1:∀x,bF F67 L67 f67 vh x=(fun x=>nu x) x:=by
 intro x
 kernel_rfl
theorem al2:bh prog 67 (vh.F (fun x=>nu x)):=bG (F:=F67) (tbl:=L67) func67 (by kernel_rfl) mix (bH (l:=[]) (bE rfl rfl) rfl (by simp)) (by kernel_rfl) (by kernel_rfl) (by decide) (fun _=>by kernel_rfl) al1
def me:aV:=vh.az (by kernel_rfl) (fun x=>nu x)
theorem yg:bq prog (67,me):=bI func67 (by kernel_rfl) (by kernel_rfl) al2
def F36:aZ:={ cfg:={ N:=18,T:=T,R:=R,az:=fun _ f=>bA f [(67,me)],var:=[0,1,2,3,4,5],res:=[2],eqs:=EQ },keys:=[0,2,3,5,6,7,8,9],aQ:=[.loc 5] }
def vi:aF:={ args:=[.one (.n .data (.pair (.int .i64) (.pair .str (.int .i64))))],boxes:=[],res:=[.one (.i .i64)],bf:=[],aB:=[] }
def L36:Nat→Option aX:=fun n=>match n with
 |0=>some { head:={ live:=[3,6,7,8],aO:=[],vs:=[.slot 3 (.i .i64),.slot 8 (.i .i64)] },bT:=[(.exit 0,{ live:=[3],aO:=[],vs:=[.slot 3 (.i .i64)] })] }
 |_=>none
set_option maxRecDepth 100000 in
theorem al3:∀x,bF F36 L36 f36 vi x=(fun x=>oB x) x:=by
 intro x
 kernel_rfl
theorem al4:bh prog 36 (vi.F (fun x=>oB x)):=bG (F:=F36) (tbl:=L36) func36 (by kernel_rfl) mix (bH (l:=[(67,me)]) (bE rfl rfl) rfl (List.forall_mem_cons.2 ⟨yg,by simp⟩)) (by kernel_rfl) (by kernel_rfl) (by decide) (fun _=>by kernel_rfl) al3
def oF:aV:=vi.az (by kernel_rfl) (fun x=>oB x)
theorem G36:bq prog (36,oF):=bI func36 (by kernel_rfl) (by kernel_rfl) al4
def auA:aZ:={ cfg:={ N:=67,T:=T,R:=R,az:=fun _ f=>bA f [(36,oF),(67,me)],var:=[0,1,2,3,4,5,6,7,8,9,10,11,12,13,14],res:=[6,7],eqs:=EQ,bK:=true },keys:=[0,1,2,6,7,8,9,11,12,13,14,27,28,29,30,31,46,49],aQ:=[.loc 11] }
def ami:aF:={ args:=[.one (.n .data (.pair (.int .i64) (.pair .str (.int .i64)))),.one (.i .i64),.one (.i .i64)],boxes:=[],res:=[.one (.n .data (.pair (.int .i64) (.pair .str (.int .i64)))),.one .b],bf:=[],aB:=[] }
def auB:Nat→Option aX:=fun n=>match n with
 |0=>some { head:={ live:=[1,2,8,9,28,29,30],aO:=[],vs:=[.slot 8 (.n .own (.pair (.int .i64) (.pair .str (.int .i64)))),.slot 9 (.i .i64),.slot 30 (.i .i64)] },bT:=[(.exit 0,{ live:=[8],aO:=[],vs:=[.slot 8 (.n .own (.pair (.int .i64) (.pair .str (.int .i64))))] })] }
 |_=>none
set_option maxRecDepth 100000 in
theorem aFA:∀x,bF auA auB f38 ami x=(fun x=>amh x.1 x.2.1 x.2.2) x:=by
 intro x
 kernel_rfl
theorem aFB:bh prog 38 (ami.F (fun x=>amh x.1 x.2.1 x.2.2)):=bG (F:=auA) (tbl:=auB) func38 (by kernel_rfl) mix (bH (l:=[(36,oF),(67,me)]) (bE rfl rfl) rfl (List.forall_mem_cons.2 ⟨G36,List.forall_mem_cons.2 ⟨yg,by simp⟩⟩)) (by kernel_rfl) (by kernel_rfl) (by decide) (fun _=>by kernel_rfl) aFA
def auC:aV:=ami.az (by kernel_rfl) (fun x=>amh x.1 x.2.1 x.2.2)
theorem aFC:bq prog (38,auC):=bI func38 (by kernel_rfl) (by kernel_rfl) aFB
def F63:aZ:={ cfg:={ N:=26,T:=T,R:=R,az:=fun _ f=>bA f [],var:=[0,1,2,3,4],res:=[2],eqs:=EQ },keys:=[0,2,3,4,9,10,11],aQ:=[] }
def vg:aF:={ args:=[.one .s],boxes:=[],res:=[.one .s],bf:=[],aB:=[] }
def L63:Nat→Option aX:=fun n=>match n with
 |0=>some { head:={ live:=[0,3,9,10],aO:=[],vs:=[.slot 3 (.l .own (.int .u8)),.slot 10 (.i .i64)] },bT:=[(.exit 0,{ live:=[3],aO:=[],vs:=[.slot 3 (.l .own (.int .u8))] })] }
 |_=>none
set_option maxRecDepth 100000 in
theorem alW:∀x,bF F63 L63 f63 vg x=(fun x=>rV x) x:=by
 intro x
 kernel_rfl
theorem alX:bh prog 63 (vg.F (fun x=>rV x)):=bG (F:=F63) (tbl:=L63) func63 (by kernel_rfl) mix (bH (l:=[]) (bE rfl rfl) rfl (by simp)) (by kernel_rfl) (by kernel_rfl) (by decide) (fun _=>by kernel_rfl) alW
def yf:aV:=vg.az (by kernel_rfl) (fun x=>rV x)
theorem G63:bq prog (63,yf):=bI func63 (by kernel_rfl) (by kernel_rfl) alX
def F44:aZ:={ cfg:={ N:=18,T:=T,R:=R,az:=fun _ f=>bA f [],var:=[0,1,2,3,4],res:=[4],eqs:=EQ },keys:=[0,1,4],aQ:=[] }
def S44:aF:={ args:=[.one .s,.one .s],boxes:=[],res:=[.one .b],bf:=[],aB:=[] }
def L44:Nat→Option aX:=fun _=>none
set_option maxRecDepth 100000 in
theorem aFD:∀x,bF F44 L44 f44 S44 x=(fun x=>ab8 x.1 x.2) x:=by
 intro x
 kernel_rfl
theorem aFE:bh prog 44 (S44.F (fun x=>ab8 x.1 x.2)):=bG (F:=F44) (tbl:=L44) func44 (by kernel_rfl) mix (bH (l:=[]) (bE rfl rfl) rfl (by simp)) (by kernel_rfl) (by kernel_rfl) (by decide) (fun _=>by kernel_rfl) aFD
def C44:aV:=S44.az (by kernel_rfl) (fun x=>ab8 x.1 x.2)
theorem G44:bq prog (44,C44):=bI func44 (by kernel_rfl) (by kernel_rfl) aFE
def abn:aZ:={ cfg:={ N:=7,T:=T,R:=R,az:=fun _ f=>bA f [],var:=[0,1],res:=[],eqs:=EQ },keys:=[0,2],aQ:=[.loc 2] }
def uM:aF:={ args:=[.one (.i .u8)],boxes:=[],res:=[.row (.pair (.int .i64) (.pair .str (.int .i64)))],bf:=[],aB:=[] }
def abo:Nat→Option aX:=fun _=>none
set_option maxRecDepth 100000 in
theorem aj7:∀x,bF abn abo f136 uM x=(fun x=>nj x) x:=by
 intro x
 kernel_rfl
theorem aj8:bh prog 136 (uM.F (fun x=>nj x)):=bG (F:=abn) (tbl:=abo) func136 (by kernel_rfl) mix (bH (l:=[]) (bE rfl rfl) rfl (by simp)) (by kernel_rfl) (by kernel_rfl) (by decide) (fun _=>by kernel_rfl) aj7
def rY:aV:=uM.az (by kernel_rfl) (fun x=>nj x)
theorem afF:bq prog (136,rY):=bI func136 (by kernel_rfl) (by kernel_rfl) aj8
def abp:aZ:={ cfg:={ N:=24,T:=T,R:=R,az:=fun _ f=>bA f [(44,C44),(136,rY)],var:=[0,1,3,6,12],res:=[3],eqs:=EQ },keys:=[0,2,3,5,6,9,12,15],aQ:=[.loc 2] }
def uN:aF:={ args:=[.one .s],boxes:=[],res:=[.row (.pair (.int .i64) (.pair .str (.int .i64))),.one (.i .i64)],bf:=[],aB:=[] }
def abq:Nat→Option aX:=fun _=>none
set_option maxRecDepth 100000 in
theorem aj9:∀x,bF abp abq f104 uN x=(fun x=>pO x) x:=by
 intro x
 kernel_rfl
theorem aka:bh prog 104 (uN.F (fun x=>pO x)):=bG (F:=abp) (tbl:=abq) func104 (by kernel_rfl) mix (bH (l:=[(44,C44),(136,rY)]) (bE rfl rfl) rfl (List.forall_mem_cons.2 ⟨G44,List.forall_mem_cons.2 ⟨afF,by simp⟩⟩)) (by kernel_rfl) (by kernel_rfl) (by decide) (fun _=>by kernel_rfl) aj9
def rZ:aV:=uN.az (by kernel_rfl) (fun x=>pO x)
theorem afG:bq prog (104,rZ):=bI func104 (by kernel_rfl) (by kernel_rfl) aka
def F77:aZ:={ cfg:={ N:=23,T:=T,R:=R,az:=fun _ f=>bA f [(104,rZ)],var:=[0,1,2,3,5,7,13],res:=[5],eqs:=EQ },keys:=[0,1,4,5,6,7,13],aQ:=[.loc 4] }
def uO:aF:={ args:=[.one (.i .i64),.one .s],boxes:=[],res:=[.row (.pair (.int .i64) (.pair .str (.int .i64))),.one (.i .i64)],bf:=[],aB:=[] }
def L77:Nat→Option aX:=fun _=>none
set_option maxRecDepth 100000 in
theorem akb:∀x,bF F77 L77 f77 uO x=(fun x=>rO x.1 x.2) x:=by
 intro x
 kernel_rfl
theorem akc:bh prog 77 (uO.F (fun x=>rO x.1 x.2)):=bG (F:=F77) (tbl:=L77) func77 (by kernel_rfl) mix (bH (l:=[(104,rZ)]) (bE rfl rfl) rfl (List.forall_mem_cons.2 ⟨afG,by simp⟩)) (by kernel_rfl) (by kernel_rfl) (by decide) (fun _=>by kernel_rfl) akb
def x5:aV:=uO.az (by kernel_rfl) (fun x=>rO x.1 x.2)
theorem G77:bq prog (77,x5):=bI func77 (by kernel_rfl) (by kernel_rfl) akc
def abw:aZ:={ cfg:={ N:=61,T:=T,R:=R,az:=fun _ f=>bA f [],var:=[0,1,2,3,4,5,6],res:=[2],eqs:=EQ },keys:=[0,2,3,4,5,6,8,9,10,18,25,38],aQ:=[.loc 5] }
def uQ:aF:={ args:=[.one (.n .data (.pair (.int .i64) (.pair .str (.int .i64))))],boxes:=[],res:=[.one (.n .own (.pair (.int .i64) (.pair .str (.int .i64))))],bf:=[],aB:=[] }
def abx:Nat→Option aX:=fun n=>match n with
 |0=>some { head:={ live:=[0,3,8,9],aO:=[],vs:=[.slot 3 (.n .own (.pair (.int .i64) (.pair .str (.int .i64)))),.slot 9 (.i .i64)] },bT:=[(.exit 0,{ live:=[3],aO:=[],vs:=[.slot 3 (.n .own (.pair (.int .i64) (.pair .str (.int .i64))))] })] }
 |_=>none
set_option maxRecDepth 100000 in
theorem akh:∀x,bF abw abx f105 uQ x=(fun x=>pN x) x:=by
 intro x
 kernel_rfl
theorem aki:bh prog 105 (uQ.F (fun x=>pN x)):=bG (F:=abw) (tbl:=abx) func105 (by kernel_rfl) mix (bH (l:=[]) (bE rfl rfl) rfl (by simp)) (by kernel_rfl) (by kernel_rfl) (by decide) (fun _=>by kernel_rfl) akh
def sg:aV:=uQ.az (by kernel_rfl) (fun x=>pN x)
theorem afH:bq prog (105,sg):=bI func105 (by kernel_rfl) (by kernel_rfl) aki
def F78:aZ:={ cfg:={ N:=10,T:=T,R:=R,az:=fun _ f=>bA f [(105,sg)],var:=[0,1,2,3,4],res:=[4],eqs:=EQ },keys:=[0,1,4],aQ:=[] }
def uR:aF:={ args:=[.one (.n .data (.pair (.int .i64) (.pair .str (.int .i64)))),.one (.n .data (.pair (.int .i64) (.pair .str (.int .i64))))],boxes:=[],res:=[.one (.n .own (.pair (.int .i64) (.pair .str (.int .i64))))],bf:=[],aB:=[] }
def L78:Nat→Option aX:=fun _=>none
set_option maxRecDepth 100000 in
theorem akj:∀x,bF F78 L78 f78 uR x=(fun x=>ou x.1 x.2) x:=by
 intro x
 kernel_rfl
theorem akk:bh prog 78 (uR.F (fun x=>ou x.1 x.2)):=bG (F:=F78) (tbl:=L78) func78 (by kernel_rfl) mix (bH (l:=[(105,sg)]) (bE rfl rfl) rfl (List.forall_mem_cons.2 ⟨afH,by simp⟩)) (by kernel_rfl) (by kernel_rfl) (by decide) (fun _=>by kernel_rfl) akj
def x7:aV:=uR.az (by kernel_rfl) (fun x=>ou x.1 x.2)
theorem G78:bq prog (78,x7):=bI func78 (by kernel_rfl) (by kernel_rfl) akk
def F79:aZ:={ cfg:={ N:=17,T:=T,R:=R,az:=fun _ f=>bA f [],var:=[0,1,2,3],res:=[2],eqs:=EQ },keys:=[0,2,3,15],aQ:=[] }
def uS:aF:={ args:=[.one (.i .i64)],boxes:=[],res:=[.one .s],bf:=[],aB:=[] }
def L79:Nat→Option aX:=fun n=>match n with
 |0=>some { head:={ live:=[0,3],aO:=[],vs:=[.slot 0 (.i .i64),.slot 3 .s] },bT:=[(.ret,{ live:=[2],aO:=[],vs:=[.slot 2 .s] })] }
 |_=>none
set_option maxRecDepth 100000 in
theorem ako:∀x,bF F79 L79 f79 uS x=(fun x=>kV x) x:=by
 intro x
 kernel_rfl
theorem akp:bh prog 79 (uS.F (fun x=>kV x)):=bG (F:=F79) (tbl:=L79) func79 (by kernel_rfl) mix (bH (l:=[]) (bE rfl rfl) rfl (by simp)) (by kernel_rfl) (by kernel_rfl) (by decide) (fun _=>by kernel_rfl) ako
def si:aV:=uS.az (by kernel_rfl) (fun x=>kV x)
theorem G79:bq prog (79,si):=bI func79 (by kernel_rfl) (by kernel_rfl) akp
def F51:aZ:={ cfg:={ N:=16,T:=T,R:=R,az:=fun _ f=>bA f [(79,si)],var:=[0,1,2],res:=[2],eqs:=EQ },keys:=[0,2,8],aQ:=[] }
def uT:aF:={ args:=[.one (.i .i64)],boxes:=[],res:=[.one .s],bf:=[],aB:=[] }
def L51:Nat→Option aX:=fun _=>none
set_option maxRecDepth 100000 in
theorem akq:∀x,bF F51 L51 f51 uT x=(fun x=>ot x) x:=by
 intro x
 kernel_rfl
theorem akr:bh prog 51 (uT.F (fun x=>ot x)):=bG (F:=F51) (tbl:=L51) func51 (by kernel_rfl) mix (bH (l:=[(79,si)]) (bE rfl rfl) rfl (List.forall_mem_cons.2 ⟨G79,by simp⟩)) (by kernel_rfl) (by kernel_rfl) (by decide) (fun _=>by kernel_rfl) akq
def x8:aV:=uT.az (by kernel_rfl) (fun x=>ot x)
theorem G51:bq prog (51,x8):=bI func51 (by kernel_rfl) (by kernel_rfl) akr
def F47:aZ:={ cfg:={ N:=18,T:=T,R:=R,az:=fun _ f=>bA f [],var:=[0,1,2,3],res:=[2],eqs:=EQ },keys:=[0,2,3,7,13],aQ:=[] }
def uP:aF:={ args:=[.one .s],boxes:=[],res:=[.one .s],bf:=[],aB:=[] }
def L47:Nat→Option aX:=fun n=>match n with
 |0=>some { head:={ live:=[0,3],aO:=[],vs:=[.slot 3 (.i .i64)] },bT:=[(.ret,{ live:=[2],aO:=[],vs:=[.slot 2 .s] }),(.exit 0,{ live:=[0],aO:=[],vs:=[] })] }
 |_=>none
set_option maxRecDepth 100000 in
theorem ake:∀x,bF F47 L47 f47 uP x=(fun x=>rN x) x:=by
 intro x
 kernel_rfl
theorem akf:bh prog 47 (uP.F (fun x=>rN x)):=bG (F:=F47) (tbl:=L47) func47 (by kernel_rfl) mix (bH (l:=[]) (bE rfl rfl) rfl (by simp)) (by kernel_rfl) (by kernel_rfl) (by decide) (fun _=>by kernel_rfl) ake
def x6:aV:=uP.az (by kernel_rfl) (fun x=>rN x)
theorem G47:bq prog (47,x6):=bI func47 (by kernel_rfl) (by kernel_rfl) akf
def F68:aZ:={ cfg:={ N:=51,T:=T,R:=R,az:=fun _ f=>bA f [],var:=[0,1,2,3,18,25,32],res:=[2],eqs:=EQ },keys:=[0,2,3,18,25,32],aQ:=[] }
def vj:aF:={ args:=[.one (.i .u8)],boxes:=[],res:=[.one (.i .i64)],bf:=[],aB:=[] }
def L68:Nat→Option aX:=fun _=>none
set_option maxRecDepth 100000 in
theorem al5:∀x,bF F68 L68 f68 vj x=(fun x=>j5 x) x:=by
 intro x
 kernel_rfl
theorem al6:bh prog 68 (vj.F (fun x=>j5 x)):=bG (F:=F68) (tbl:=L68) func68 (by kernel_rfl) mix (bH (l:=[]) (bE rfl rfl) rfl (by simp)) (by kernel_rfl) (by kernel_rfl) (by decide) (fun _=>by kernel_rfl) al5
def j6:aV:=vj.az (by kernel_rfl) (fun x=>j5 x)
theorem vm:bq prog (68,j6):=bI func68 (by kernel_rfl) (by kernel_rfl) al6
def F39:aZ:={ cfg:={ N:=36,T:=T,R:=R,az:=fun _ f=>bA f [(68,j6)],var:=[0,1,2,3],res:=[2,3],eqs:=EQ },keys:=[0,2,3,15,28,33],aQ:=[] }
def vo:aF:={ args:=[.one .s],boxes:=[],res:=[.one (.i .i64),.one (.i .i64)],bf:=[],aB:=[] }
def L39:Nat→Option aX:=fun n=>match n with
 |0=>some { head:={ live:=[0,2,3],aO:=[],vs:=[.slot 2 (.i .i64)] },bT:=[(.exit 0,{ live:=[0,2,3],aO:=[],vs:=[.slot 2 (.i .i64)] })] }
 |1=>some { head:={ live:=[0,2,3],aO:=[],vs:=[.slot 3 (.i .i64)] },bT:=[(.exit 2,{ live:=[2,3],aO:=[],vs:=[.slot 3 (.i .i64)] })] }
 |_=>none
set_option maxRecDepth 100000 in
theorem amc:∀x,bF F39 L39 f39 vo x=(fun x=>rU x) x:=by
 intro x
 kernel_rfl
theorem amd:bh prog 39 (vo.F (fun x=>rU x)):=bG (F:=F39) (tbl:=L39) func39 (by kernel_rfl) mix (bH (l:=[(68,j6)]) (bE rfl rfl) rfl (List.forall_mem_cons.2 ⟨vm,by simp⟩)) (by kernel_rfl) (by kernel_rfl) (by decide) (fun _=>by kernel_rfl) amc
def yj:aV:=vo.az (by kernel_rfl) (fun x=>rU x)
theorem G39:bq prog (39,yj):=bI func39 (by kernel_rfl) (by kernel_rfl) amd
def F66:aZ:={ cfg:={ N:=56,T:=T,R:=R,az:=fun _ f=>bA f [],var:=[0,1,2,3,4,5],res:=[2],eqs:=EQ },keys:=[0,2,3,4,5,9,15,36,48],aQ:=[] }
def S66:aF:={ args:=[.one (.n .data (.pair (.int .i64) (.pair .str (.int .i64))))],boxes:=[],res:=[.one (.n .own (.pair (.int .i64) (.pair .str (.int .i64))))],bf:=[],aB:=[] }
def L66:Nat→Option aX:=fun n=>match n with
 |0=>some { head:={ live:=[0,3,4],aO:=[],vs:=[.slot 3 (.n .own (.pair (.int .i64) (.pair .str (.int .i64)))),.slot 4 (.i .i64)] },bT:=[(.exit 0,{ live:=[3],aO:=[],vs:=[.slot 3 (.n .own (.pair (.int .i64) (.pair .str (.int .i64))))] })] }
 |1=>some { head:={ live:=[0,3,4,5],aO:=[],vs:=[.slot 4 (.i .i64),.slot 5 (.n .own (.int .u8))] },bT:=[(.exit 2,{ live:=[0,3,4,5],aO:=[],vs:=[.slot 4 (.i .i64),.slot 5 (.n .own (.int .u8))] })] }
 |_=>none
set_option maxRecDepth 100000 in
theorem aFH:∀x,bF F66 L66 f66 S66 x=(fun x=>afN x) x:=by
 intro x
 kernel_rfl
theorem aFI:bh prog 66 (S66.F (fun x=>afN x)):=bG (F:=F66) (tbl:=L66) func66 (by kernel_rfl) mix (bH (l:=[]) (bE rfl rfl) rfl (by simp)) (by kernel_rfl) (by kernel_rfl) (by decide) (fun _=>by kernel_rfl) aFH
def C66:aV:=S66.az (by kernel_rfl) (fun x=>afN x)
theorem G66:bq prog (66,C66):=bI func66 (by kernel_rfl) (by kernel_rfl) aFI
def F34:aZ:={ cfg:={ N:=28,T:=T,R:=R,az:=fun _ f=>bA f [],var:=[0,1,2,3,4,5,14,20],res:=[2],eqs:=EQ },keys:=[0,2,3,5,6,7,8,9,13,14,20],aQ:=[.loc 5] }
def vf:aF:={ args:=[.one (.n .data (.pair (.int .i64) (.pair .str (.int .i64))))],boxes:=[],res:=[.one .s],bf:=[],aB:=[] }
def L34:Nat→Option aX:=fun n=>match n with
 |0=>some { head:={ live:=[3,6,7,8],aO:=[],vs:=[.slot 3 (.n .own (.int .u8)),.slot 8 (.i .i64)] },bT:=[(.exit 0,{ live:=[3],aO:=[],vs:=[.slot 3 (.n .own (.int .u8))] })] }
 |_=>none
set_option maxRecDepth 100000 in
theorem alU:∀x,bF F34 L34 f34 vf x=(fun x=>oC x) x:=by
 intro x
 kernel_rfl
theorem alV:bh prog 34 (vf.F (fun x=>oC x)):=bG (F:=F34) (tbl:=L34) func34 (by kernel_rfl) mix (bH (l:=[]) (bE rfl rfl) rfl (by simp)) (by kernel_rfl) (by kernel_rfl) (by decide) (fun _=>by kernel_rfl) alU
def sr:aV:=vf.az (by kernel_rfl) (fun x=>oC x)
theorem G34:bq prog (34,sr):=bI func34 (by kernel_rfl) (by kernel_rfl) alV
def F35:aZ:={ cfg:={ N:=82,T:=T,R:=R,az:=fun _ f=>bA f [(34,sr),(66,C66)],var:=[0,1,2,3,4,5,6,7,27,41,55],res:=[4],eqs:=EQ },keys:=[0,1,4,5,6,7,16,20,27,41,55,76],aQ:=[.loc 7] }
def S35:aF:={ args:=[.one (.n .data (.pair (.int .i64) (.pair .str (.int .i64)))),.one (.i .i64)],boxes:=[],res:=[.one (.i .i64)],bf:=[],aB:=[] }
def L35:Nat→Option aX:=fun n=>match n with
 |0=>some { head:={ live:=[0,1,5,6],aO:=[],vs:=[.slot 1 (.i .i64),.slot 5 (.i .i64),.slot 6 (.i .i64)] },bT:=[(.ret,{ live:=[4],aO:=[],vs:=[.slot 4 (.i .i64)] }),(.exit 0,{ live:=[0,5,6],aO:=[],vs:=[.slot 5 (.i .i64),.slot 6 (.i .i64)] })] }
 |1=>some { head:={ live:=[0,5,6],aO:=[],vs:=[.slot 5 (.i .i64),.slot 6 (.i .i64)] },bT:=[(.exit 3,{ live:=[5],aO:=[],vs:=[.slot 5 (.i .i64)] })] }
 |_=>none
set_option maxRecDepth 100000 in
theorem aFL:∀x,bF F35 L35 f35 S35 x=(fun x=>aml x.1 x.2) x:=by
 intro x
 kernel_rfl
theorem aFM:bh prog 35 (S35.F (fun x=>aml x.1 x.2)):=bG (F:=F35) (tbl:=L35) func35 (by kernel_rfl) mix (bH (l:=[(34,sr),(66,C66)]) (bE rfl rfl) rfl (List.forall_mem_cons.2 ⟨G34,List.forall_mem_cons.2 ⟨G66,by simp⟩⟩)) (by kernel_rfl) (by kernel_rfl) (by decide) (fun _=>by kernel_rfl) aFL
def C35:aV:=S35.az (by kernel_rfl) (fun x=>aml x.1 x.2)
theorem G35:bq prog (35,C35):=bI func35 (by kernel_rfl) (by kernel_rfl) aFM
def F37:aZ:={ cfg:={ N:=37,T:=T,R:=R,az:=fun _ f=>bA f [(68,j6)],var:=[0,1,2,3,4,5,6],res:=[2],eqs:=EQ },keys:=[0,2,3,5,6,7,8,9,10,15,23],aQ:=[.loc 5] }
def vn:aF:={ args:=[.one (.n .data (.pair (.int .i64) (.pair .str (.int .i64))))],boxes:=[],res:=[.one (.n .own .bool)],bf:=[],aB:=[] }
def L37:Nat→Option aX:=fun n=>match n with
 |0=>some { head:={ live:=[3,7,8,9],aO:=[],vs:=[.slot 3 (.n .own .bool),.slot 9 (.i .i64)] },bT:=[(.exit 0,{ live:=[3],aO:=[],vs:=[.slot 3 (.n .own .bool)] })] }
 |1=>some { head:={ live:=[3,5,6,7,8,9],aO:=[(.loc 5)],vs:=[.slot 3 (.n .own .bool),.slot 6 (.i .i64)] },bT:=[(.exit 2,{ live:=[3,7,8,9],aO:=[],vs:=[.slot 3 (.n .own .bool)] })] }
 |_=>none
set_option maxRecDepth 100000 in
theorem al7:∀x,bF F37 L37 f37 vn x=(fun x=>rW x) x:=by
 intro x
 kernel_rfl
theorem al8:bh prog 37 (vn.F (fun x=>rW x)):=bG (F:=F37) (tbl:=L37) func37 (by kernel_rfl) mix (bH (l:=[(68,j6)]) (bE rfl rfl) rfl (List.forall_mem_cons.2 ⟨vm,by simp⟩)) (by kernel_rfl) (by kernel_rfl) (by decide) (fun _=>by kernel_rfl) al7
def yh:aV:=vn.az (by kernel_rfl) (fun x=>rW x)
theorem G37:bq prog (37,yh):=bI func37 (by kernel_rfl) (by kernel_rfl) al8
def auM:aZ:={ cfg:={ N:=16,T:=T,R:=R,az:=fun _ f=>bA f [],var:=[0,1,2],res:=[2],eqs:=EQ },keys:=[0,1,2],aQ:=[.loc 1] }
def amo:aF:={ args:=[.row (.pair (.int .i64) (.pair .str (.int .i64)))],boxes:=[],res:=[.one .b],bf:=[],aB:=[] }
def auN:Nat→Option aX:=fun _=>none
set_option maxRecDepth 100000 in
theorem aFO:∀x,bF auM auN f122 amo x=(fun x=>amn x) x:=by
 intro x
 kernel_rfl
theorem aFP:bh prog 122 (amo.F (fun x=>amn x)):=bG (F:=auM) (tbl:=auN) func122 (by kernel_rfl) mix (bH (l:=[]) (bE rfl rfl) rfl (by simp)) (by kernel_rfl) (by kernel_rfl) (by decide) (fun _=>by kernel_rfl) aFO
def auO:aV:=amo.az (by kernel_rfl) (fun x=>amn x)
theorem aFQ:bq prog (122,auO):=bI func122 (by kernel_rfl) (by kernel_rfl) aFP
def auP:aZ:={ cfg:={ N:=19,T:=T,R:=R,az:=fun _ f=>bA f [],var:=[0,1,2,3,4],res:=[2],eqs:=EQ },keys:=[0,2,3,4,8,9,10],aQ:=[] }
def amr:aF:={ args:=[.one (.i .i64)],boxes:=[],res:=[.one (.n .own (.int .i64))],bf:=[],aB:=[] }
def auQ:Nat→Option aX:=fun n=>match n with
 |0=>some { head:={ live:=[3,8,9],aO:=[],vs:=[.slot 3 (.l .own (.int .i64)),.slot 9 (.i .i64)] },bT:=[(.exit 0,{ live:=[3],aO:=[],vs:=[.slot 3 (.l .own (.int .i64))] })] }
 |_=>none
set_option maxRecDepth 100000 in
theorem aFS:∀x,bF auP auQ f101 amr x=(fun x=>amq x) x:=by
 intro x
 kernel_rfl
theorem aFT:bh prog 101 (amr.F (fun x=>amq x)):=bG (F:=auP) (tbl:=auQ) func101 (by kernel_rfl) mix (bH (l:=[]) (bE rfl rfl) rfl (by simp)) (by kernel_rfl) (by kernel_rfl) (by decide) (fun _=>by kernel_rfl) aFS
def auR:aV:=amr.az (by kernel_rfl) (fun x=>amq x)
theorem aFU:bq prog (101,auR):=bI func101 (by kernel_rfl) (by kernel_rfl) aFT
def auS:aZ:={ cfg:={ N:=30,T:=T,R:=R,az:=fun _ f=>bA f [(68,j6)],var:=[0,1,2],res:=[2],eqs:=EQ },keys:=[0,2],aQ:=[] }
def amt:aF:={ args:=[.one (.i .u8)],boxes:=[],res:=[.one .b],bf:=[],aB:=[] }
def auT:Nat→Option aX:=fun _=>none
set_option maxRecDepth 100000 in
theorem aFW:∀x,bF auS auT f135 amt x=(fun x=>afP x) x:=by
 intro x
 kernel_rfl
theorem aFX:bh prog 135 (amt.F (fun x=>afP x)):=bG (F:=auS) (tbl:=auT) func135 (by kernel_rfl) mix (bH (l:=[(68,j6)]) (bE rfl rfl) rfl (List.forall_mem_cons.2 ⟨vm,by simp⟩)) (by kernel_rfl) (by kernel_rfl) (by decide) (fun _=>by kernel_rfl) aFW
def afQ:aV:=amt.az (by kernel_rfl) (fun x=>afP x)
theorem auU:bq prog (135,afQ):=bI func135 (by kernel_rfl) (by kernel_rfl) aFX
def F98:aZ:={ cfg:={ N:=60,T:=T,R:=R,az:=fun _ f=>bA f [(135,afQ)],var:=[0,1,2,3,4,5,6,25,32,38,44],res:=[4],eqs:=EQ },keys:=[0,1,4,5,6,10,25,32,38,44],aQ:=[] }
def S98:aF:={ args:=[.one (.n .data (.int .u8)),.one .s],boxes:=[],res:=[.one (.n .own (.int .u8))],bf:=[],aB:=[] }
def L98:Nat→Option aX:=fun n=>match n with
 |0=>some { head:={ live:=[0,1,5],aO:=[],vs:=[.slot 0 (.n .data (.int .u8)),.slot 5 (.i .i64)] },bT:=[(.exit 0,{ live:=[0],aO:=[],vs:=[.slot 0 (.n .data (.int .u8))] })] }
 |_=>none
set_option maxRecDepth 100000 in
theorem aFY:∀x,bF F98 L98 f98 S98 x=(fun x=>ams x.1 x.2) x:=by
 intro x
 kernel_rfl
theorem aFZ:bh prog 98 (S98.F (fun x=>ams x.1 x.2)):=bG (F:=F98) (tbl:=L98) func98 (by kernel_rfl) mix (bH (l:=[(135,afQ)]) (bE rfl rfl) rfl (List.forall_mem_cons.2 ⟨auU,by simp⟩)) (by kernel_rfl) (by kernel_rfl) (by decide) (fun _=>by kernel_rfl) aFY
def C98:aV:=S98.az (by kernel_rfl) (fun x=>ams x.1 x.2)
theorem G98:bq prog (98,C98):=bI func98 (by kernel_rfl) (by kernel_rfl) aFZ
def F88:aZ:={ cfg:={ N:=8,T:=T,R:=R,az:=fun _ f=>bA f [],var:=[0,1,2],res:=[2],eqs:=EQ },keys:=[0,2,4],aQ:=[] }
def S88:aF:={ args:=[.one (.n .data (.pair (.pair (.int .u8) (.pair (.int .u8) (.pair (.int .u8) (.pair (.int .u8) (.pair (.int .u8) (.pair (.int .u8) (.pair (.int .u8) (.pair (.int .u8) (.pair (.int .u8) (.pair (.int .u8) (.pair (.int .u8) (.pair (.int .u8) (.pair (.int .u8) (.pair (.int .u8) (.pair (.int .u8) (.pair (.int .u8) (.pair (.int .u8) (.pair (.int .u8) (.pair (.int .u8) (.pair (.int .u8) (.pair (.int .u8) (.pair (.int .u8) (.pair (.int .u8) (.pair (.int .u8) (.pair (.int .u8) (.pair (.int .u8) (.pair (.int .u8) (.pair (.int .u8) (.pair (.int .u8) (.pair (.int .u8) (.pair (.int .u8) (.int .u8)))))))))))))))))))))))))))))))) (.pair (.int .i64) .bool)))],boxes:=[],res:=[.one (.n .own (.pair (.pair (.int .u8) (.pair (.int .u8) (.pair (.int .u8) (.pair (.int .u8) (.pair (.int .u8) (.pair (.int .u8) (.pair (.int .u8) (.pair (.int .u8) (.pair (.int .u8) (.pair (.int .u8) (.pair (.int .u8) (.pair (.int .u8) (.pair (.int .u8) (.pair (.int .u8) (.pair (.int .u8) (.pair (.int .u8) (.pair (.int .u8) (.pair (.int .u8) (.pair (.int .u8) (.pair (.int .u8) (.pair (.int .u8) (.pair (.int .u8) (.pair (.int .u8) (.pair (.int .u8) (.pair (.int .u8) (.pair (.int .u8) (.pair (.int .u8) (.pair (.int .u8) (.pair (.int .u8) (.pair (.int .u8) (.pair (.int .u8) (.int .u8)))))))))))))))))))))))))))))))) (.pair (.int .i64) .bool)))],bf:=[],aB:=[] }
def L88:Nat→Option aX:=fun _=>none
set_option maxRecDepth 100000 in
theorem aF1:∀x,bF F88 L88 f88 S88 x=(fun x=>afR x) x:=by
 intro x
 kernel_rfl
theorem aF2:bh prog 88 (S88.F (fun x=>afR x)):=bG (F:=F88) (tbl:=L88) func88 (by kernel_rfl) mix (bH (l:=[]) (bE rfl rfl) rfl (by simp)) (by kernel_rfl) (by kernel_rfl) (by decide) (fun _=>by kernel_rfl) aF1
def C88:aV:=S88.az (by kernel_rfl) (fun x=>afR x)
theorem G88:bq prog (88,C88):=bI func88 (by kernel_rfl) (by kernel_rfl) aF2
def F65:aZ:={ cfg:={ N:=9,T:=T,R:=R,az:=fun _ f=>bA f [(88,C88)],var:=[0,1,2,3],res:=[2],eqs:=EQ },keys:=[0,2,3],aQ:=[] }
def S65:aF:={ args:=[.one (.n .data (.pair (.pair (.int .u8) (.pair (.int .u8) (.pair (.int .u8) (.pair (.int .u8) (.pair (.int .u8) (.pair (.int .u8) (.pair (.int .u8) (.pair (.int .u8) (.pair (.int .u8) (.pair (.int .u8) (.pair (.int .u8) (.pair (.int .u8) (.pair (.int .u8) (.pair (.int .u8) (.pair (.int .u8) (.pair (.int .u8) (.pair (.int .u8) (.pair (.int .u8) (.pair (.int .u8) (.pair (.int .u8) (.pair (.int .u8) (.pair (.int .u8) (.pair (.int .u8) (.pair (.int .u8) (.pair (.int .u8) (.pair (.int .u8) (.pair (.int .u8) (.pair (.int .u8) (.pair (.int .u8) (.pair (.int .u8) (.pair (.int .u8) (.int .u8)))))))))))))))))))))))))))))))) (.pair (.int .i64) .bool)))],boxes:=[],res:=[.one (.n .own (.pair (.pair (.int .u8) (.pair (.int .u8) (.pair (.int .u8) (.pair (.int .u8) (.pair (.int .u8) (.pair (.int .u8) (.pair (.int .u8) (.pair (.int .u8) (.pair (.int .u8) (.pair (.int .u8) (.pair (.int .u8) (.pair (.int .u8) (.pair (.int .u8) (.pair (.int .u8) (.pair (.int .u8) (.pair (.int .u8) (.pair (.int .u8) (.pair (.int .u8) (.pair (.int .u8) (.pair (.int .u8) (.pair (.int .u8) (.pair (.int .u8) (.pair (.int .u8) (.pair (.int .u8) (.pair (.int .u8) (.pair (.int .u8) (.pair (.int .u8) (.pair (.int .u8) (.pair (.int .u8) (.pair (.int .u8) (.pair (.int .u8) (.int .u8)))))))))))))))))))))))))))))))) (.pair (.int .i64) .bool)))],bf:=[],aB:=[] }
def L65:Nat→Option aX:=fun _=>none
set_option maxRecDepth 100000 in
theorem aF3:∀x,bF F65 L65 f65 S65 x=(fun x=>amw x) x:=by
 intro x
 kernel_rfl
theorem aF4:bh prog 65 (S65.F (fun x=>amw x)):=bG (F:=F65) (tbl:=L65) func65 (by kernel_rfl) mix (bH (l:=[(88,C88)]) (bE rfl rfl) rfl (List.forall_mem_cons.2 ⟨G88,by simp⟩)) (by kernel_rfl) (by kernel_rfl) (by decide) (fun _=>by kernel_rfl) aF3
def C65:aV:=S65.az (by kernel_rfl) (fun x=>amw x)
theorem G65:bq prog (65,C65):=bI func65 (by kernel_rfl) (by kernel_rfl) aF4
def au4:aZ:={ cfg:={ N:=15,T:=T,R:=R,az:=fun _ f=>bA f [],var:=[0,1,2],res:=[2],eqs:=EQ },keys:=[0,2,4],aQ:=[] }
def amy:aF:={ args:=[.one (.i .i64)],boxes:=[],res:=[.one .s],bf:=[],aB:=[] }
def au5:Nat→Option aX:=fun _=>none
set_option maxRecDepth 100000 in
theorem aF6:∀x,bF au4 au5 f189 amy x=(fun x=>internal_strconv_small x) x:=by
 intro x
 kernel_rfl
theorem aF7:bh prog 189 (amy.F (fun x=>internal_strconv_small x)):=bG (F:=au4) (tbl:=au5) func189 (by kernel_rfl) mix (bH (l:=[]) (bE rfl rfl) rfl (by simp)) (by kernel_rfl) (by kernel_rfl) (by decide) (fun _=>by kernel_rfl) aF6
def afT:aV:=amy.az (by kernel_rfl) (fun x=>internal_strconv_small x)
theorem au6:bq prog (189,afT):=bI func189 (by kernel_rfl) (by kernel_rfl) aF7
def au7:aZ:={ cfg:={ N:=54,T:=T,R:=R,az:=fun _ f=>bA f [(189,afT)],var:=[0,1,2,3,4,5,6,7,8,9],res:=[4],eqs:=EQ },keys:=[0,1,4,5,6,7,9,11,17,23,34],aQ:=[.loc 5] }
def amz:aF:={ args:=[.one (.i .i64),.one (.i .i64)],boxes:=[],res:=[.one .s],bf:=[],aB:=[] }
def au8:Nat→Option aX:=fun _=>none
set_option maxRecDepth 100000 in
theorem aF8:∀x,bF au7 au8 f163 amz x=(fun x=>afU x.1 x.2) x:=by
 intro x
 kernel_rfl
theorem aF9:bh prog 163 (amz.F (fun x=>afU x.1 x.2)):=bG (F:=au7) (tbl:=au8) func163 (by kernel_rfl) mix (bH (l:=[(189,afT)]) (bE rfl rfl) rfl (List.forall_mem_cons.2 ⟨au6,by simp⟩)) (by kernel_rfl) (by kernel_rfl) (by decide) (fun _=>by kernel_rfl) aF8
def afV:aV:=amz.az (by kernel_rfl) (fun x=>afU x.1 x.2)
theorem au9:bq prog (163,afV):=bI func163 (by kernel_rfl) (by kernel_rfl) aF9
def ava:aZ:={ cfg:={ N:=5,T:=T,R:=R,az:=fun _ f=>bA f [(163,afV)],var:=[0,1,2],res:=[2],eqs:=EQ },keys:=[0,2],aQ:=[] }
def amA:aF:={ args:=[.one (.i .i64)],boxes:=[],res:=[.one .s],bf:=[],aB:=[] }
def avb:Nat→Option aX:=fun _=>none
set_option maxRecDepth 100000 in
theorem aGa:∀x,bF ava avb f134 amA x=(fun x=>internal_strconv_Itoa x) x:=by
 intro x
 kernel_rfl
theorem aGb:bh prog 134 (amA.F (fun x=>internal_strconv_Itoa x)):=bG (F:=ava) (tbl:=avb) func134 (by kernel_rfl) mix (bH (l:=[(163,afV)]) (bE rfl rfl) rfl (List.forall_mem_cons.2 ⟨au9,by simp⟩)) (by kernel_rfl) (by kernel_rfl) (by decide) (fun _=>by kernel_rfl) aGa
def afW:aV:=amA.az (by kernel_rfl) (fun x=>internal_strconv_Itoa x)
theorem avc:bq prog (134,afW):=bI func134 (by kernel_rfl) (by kernel_rfl) aGb
def F97:aZ:={ cfg:={ N:=5,T:=T,R:=R,az:=fun _ f=>bA f [(134,afW)],var:=[0,1,2],res:=[2],eqs:=EQ },keys:=[0,2],aQ:=[] }
def sk:aF:={ args:=[.one (.i .i64)],boxes:=[],res:=[.one .s],bf:=[],aB:=[] }
def L97:Nat→Option aX:=fun _=>none
set_option maxRecDepth 100000 in
theorem aGc:∀x,bF F97 L97 f97 sk x=(fun x=>amB x) x:=by
 intro x
 kernel_rfl
theorem aGd:bh prog 97 (sk.F (fun x=>amB x)):=bG (F:=F97) (tbl:=L97) func97 (by kernel_rfl) mix (bH (l:=[(134,afW)]) (bE rfl rfl) rfl (List.forall_mem_cons.2 ⟨avc,by simp⟩)) (by kernel_rfl) (by kernel_rfl) (by decide) (fun _=>by kernel_rfl) aGc
def yc:aV:=sk.az (by kernel_rfl) (fun x=>amB x)
theorem G97:bq prog (97,yc):=bI func97 (by kernel_rfl) (by kernel_rfl) aGd
def F16:aZ:={ cfg:={ N:=22,T:=T,R:=R,az:=fun _ f=>bA f [],var:=[0,1,2,3,4,5],res:=[2],eqs:=EQ },keys:=[0,1,2,3,4,5,7,8,9,10,15],aQ:=[.loc 1,.loc 5] }
def vb:aF:={ args:=[.row (.pair (.int .i64) (.sl (.pair .bool (.pair .str .str))))],boxes:=[],res:=[.one (.n .own (.int .i64))],bf:=[],aB:=[] }
def L16:Nat→Option aX:=fun _=>none
set_option maxRecDepth 100000 in
theorem alM:∀x,bF F16 L16 f16 vb x=(fun x=>nt x) x:=by
 intro x
 kernel_rfl
theorem alN:bh prog 16 (vb.F (fun x=>nt x)):=bG (F:=F16) (tbl:=L16) func16 (by kernel_rfl) mix (bH (l:=[]) (bE rfl rfl) rfl (by simp)) (by kernel_rfl) (by kernel_rfl) (by decide) (fun _=>by kernel_rfl) alM
def sq:aV:=vb.az (by kernel_rfl) (fun x=>nt x)
theorem G16:bq prog (16,sq):=bI func16 (by kernel_rfl) (by kernel_rfl) alN
def F61:aZ:={ cfg:={ N:=8,T:=T,R:=R,az:=fun _ f=>bA f [],var:=[0,1,2],res:=[2],eqs:=EQ },keys:=[0,2,4],aQ:=[] }
def u7:aF:={ args:=[.one (.n .data (.pair (.int .i64) (.pair .str (.int .i64))))],boxes:=[],res:=[.one (.n .own (.pair (.int .i64) (.pair .str (.int .i64))))],bf:=[],aB:=[] }
def L61:Nat→Option aX:=fun _=>none
set_option maxRecDepth 100000 in
theorem alF:∀x,bF F61 L61 f61 u7 x=(fun x=>rX x) x:=by
 intro x
 kernel_rfl
theorem alG:bh prog 61 (u7.F (fun x=>rX x)):=bG (F:=F61) (tbl:=L61) func61 (by kernel_rfl) mix (bH (l:=[]) (bE rfl rfl) rfl (by simp)) (by kernel_rfl) (by kernel_rfl) (by decide) (fun _=>by kernel_rfl) alF
def ye:aV:=u7.az (by kernel_rfl) (fun x=>rX x)
theorem G61:bq prog (61,ye):=bI func61 (by kernel_rfl) (by kernel_rfl) alG
end Go.Proofs.YtmoineigflegeaaGreatDoor.ve
namespace Go.Proofs.YtmoineigflegeaaGreatDoor.vx
open Go Go.Vs Go.Proofs.Tryz
def T:List (TypeId×TI):=[(1,⟨1,8,.func,(some [.aK .func])⟩),
 (2,⟨1,8,.int .i64,(some [.int .i64 0])⟩),
 (3,⟨1,8,.int .i64,(some [.int .i64 0])⟩),
 (4,⟨1,1,.bool,(some [.bool false])⟩),
 (5,⟨1,1,.int .u8,(some [.int .u8 0])⟩),
 (9,⟨1,16,.str,(some [.str []])⟩),
 (21,⟨1,4,.int .i32,(some [.int .i32 0])⟩),
 (23,⟨1,24,.slice 68,(some [.nil])⟩),
 (25,⟨2,32,.struct [(0,3),(1,23)],(some [.int .i64 0,.nil])⟩),
 (26,⟨1,8,.int .i64,(some [.int .i64 0])⟩),
 (29,⟨1,24,.slice 25,(some [.nil])⟩),
 (30,⟨1,24,.slice 55,(some [.nil])⟩),
 (32,⟨3,56,.struct [(0,29),(1,30),(2,3)],(some [.nil,.nil,.int .i64 0])⟩),
 (36,⟨1,24,.slice 3,(some [.nil])⟩),
 (43,⟨1,24,.slice 96,(some [.nil])⟩),
 (46,⟨1,8,.map 3 51,(some [.aK .map])⟩),
 (49,⟨1,24,.slice 53,(some [.nil])⟩),
 (51,⟨1,24,.slice 107,(some [.nil])⟩),
 (53,⟨2,16,.struct [(0,3),(1,3)],(some [.int .i64 0,.int .i64 0])⟩),
 (55,⟨10,104,.struct [(0,3),(1,3),(2,3),(3,53),(5,3),(6,51),(7,9),(8,3),(9,4)],(some [.int .i64 0,.int .i64 0,.int .i64 0,.int .i64 0,.int .i64 0,.int .i64 0,.nil,.str [],.int .i64 0,.bool false])⟩),
 (56,⟨1,8,.ptr 85,(some [.aK .ptr])⟩),
 (68,⟨3,40,.struct [(0,4),(1,9),(2,9)],(some [.bool false,.str [],.str []])⟩),
 (77,⟨1,24,.slice 4,(some [.nil])⟩),
 (83,⟨1,8,.map 87 51,(some [.aK .map])⟩),
 (85,⟨4,64,.struct [(0,32),(3,83)],(some [.nil,.nil,.int .i64 0,.aK .map])⟩),
 (87,⟨2,16,.struct [(0,3),(1,3)],(some [.int .i64 0,.int .i64 0])⟩),
 (88,⟨1,8,.map 3 90,(some [.aK .map])⟩),
 (90,⟨0,0,.struct [],(some [])⟩),
 (91,⟨32,32,.array 32 5,(some [.int .u8 0,.int .u8 0,.int .u8 0,.int .u8 0,.int .u8 0,.int .u8 0,.int .u8 0,.int .u8 0,.int .u8 0,.int .u8 0,.int .u8 0,.int .u8 0,.int .u8 0,.int .u8 0,.int .u8 0,.int .u8 0,.int .u8 0,.int .u8 0,.int .u8 0,.int .u8 0,.int .u8 0,.int .u8 0,.int .u8 0,.int .u8 0,.int .u8 0,.int .u8 0,.int .u8 0,.int .u8 0,.int .u8 0,.int .u8 0,.int .u8 0,.int .u8 0])⟩),
 (93,⟨34,48,.struct [(0,91),(32,3),(33,4)],(some [.int .u8 0,.int .u8 0,.int .u8 0,.int .u8 0,.int .u8 0,.int .u8 0,.int .u8 0,.int .u8 0,.int .u8 0,.int .u8 0,.int .u8 0,.int .u8 0,.int .u8 0,.int .u8 0,.int .u8 0,.int .u8 0,.int .u8 0,.int .u8 0,.int .u8 0,.int .u8 0,.int .u8 0,.int .u8 0,.int .u8 0,.int .u8 0,.int .u8 0,.int .u8 0,.int .u8 0,.int .u8 0,.int .u8 0,.int .u8 0,.int .u8 0,.int .u8 0,.int .i64 0,.bool false])⟩),
 (94,⟨1,24,.slice 93,(some [.nil])⟩),
 (96,⟨3,56,.struct [(0,4),(1,94),(2,94)],(some [.bool false,.nil,.nil])⟩),
 (101,⟨1,8,.ptr 103,(some [.aK .ptr])⟩),
 (103,⟨3,48,.struct [(0,9),(1,23),(2,3)],(some [.str [],.nil,.int .i64 0])⟩),
 (107,⟨3,32,.struct [(0,3),(1,9),(2,3)],(some [.int .i64 0,.str [],.int .i64 0])⟩),
 (121,⟨1,8,.ptr 124,(some [.aK .ptr])⟩),
 (122,⟨1,24,.slice 5,(some [.nil])⟩),
 (124,⟨2,32,.struct [(0,121),(1,122)],(some [.aK .ptr,.nil])⟩),
 (126,⟨1,16,.iface,(some [.aK .iface])⟩),
 (146,⟨1,8,.ptr 5,(some [.aK .ptr])⟩),
 (151,⟨1,8,.func,(some [.aK .func])⟩),
 (156,⟨1,24,.slice 51,(some [.nil])⟩),
 (162,⟨1,8,.ptr 218,(some [.aK .ptr])⟩),
 (168,⟨1,8,.map 9 4,(some [.aK .map])⟩),
 (173,⟨1,8,.ptr 175,(some [.aK .ptr])⟩),
 (175,⟨6,56,.struct [(0,9),(1,162),(2,3),(3,3),(4,3),(5,3)],(some [.str [],.aK .ptr,.int .i64 0,.int .i64 0,.int .i64 0,.int .i64 0])⟩),
 (180,⟨1,8,.ptr 187,(some [.aK .ptr])⟩),
 (185,⟨3,72,.struct [(0,51),(1,122),(2,36)],(some [.nil,.nil,.nil])⟩),
 (187,⟨5,104,.struct [(0,185),(3,51),(4,3)],(some [.nil,.nil,.nil,.nil,.int .i64 0])⟩),
 (188,⟨1,8,.ptr 192,(some [.aK .ptr])⟩),
 (192,⟨5,88,.struct [(0,185),(3,3),(4,3)],(some [.nil,.nil,.nil,.int .i64 0,.int .i64 0])⟩),
 (193,⟨1,8,.ptr 185,(some [.aK .ptr])⟩),
 (202,⟨1,8,.map 107 3,(some [.aK .map])⟩),
 (204,⟨1,24,.slice 9,(some [.nil])⟩),
 (211,⟨1,8,.int .u64,(some [.int .u64 0])⟩),
 (212,⟨1,8,.map 3 4,(some [.aK .map])⟩),
 (213,⟨1,8,.map 3 3,(some [.aK .map])⟩),
 (214,⟨5,80,.array 5 9,(some [.str [],.str [],.str [],.str [],.str []])⟩),
 (216,⟨6,96,.array 6 9,(some [.str [],.str [],.str [],.str [],.str [],.str []])⟩),
 (218,⟨3,48,.struct [(0,9),(1,3),(2,23)],(some [.str [],.int .i64 0,.nil])⟩),
 (238,⟨1,8,.ptr 234,(some [.aK .ptr])⟩),
 (249,⟨1,8,.ptr 286,(some [.aK .ptr])⟩),
 (252,⟨24,24,.array 24 5,(some [.int .u8 0,.int .u8 0,.int .u8 0,.int .u8 0,.int .u8 0,.int .u8 0,.int .u8 0,.int .u8 0,.int .u8 0,.int .u8 0,.int .u8 0,.int .u8 0,.int .u8 0,.int .u8 0,.int .u8 0,.int .u8 0,.int .u8 0,.int .u8 0,.int .u8 0,.int .u8 0,.int .u8 0,.int .u8 0,.int .u8 0,.int .u8 0])⟩),
 (253,⟨1,8,.int .u64,(some [.int .u64 0])⟩),
 (258,⟨1,4,.int .u32,(some [.int .u32 0])⟩),
 (266,⟨1,8,.int .i64,(some [.int .i64 0])⟩),
 (273,⟨0,0,.struct [],(some [])⟩),
 (274,⟨0,0,.struct [],(some [])⟩),
 (276,⟨1,4,.struct [(0,274),(0,258)],(some [.int .u32 0])⟩),
 (278,⟨2,8,.struct [(0,21),(1,258)],(some [.int .i32 0,.int .u32 0])⟩),
 (280,⟨2,8,.struct [(0,273),(0,278)],(some [.int .i32 0,.int .u32 0])⟩),
 (282,⟨3,12,.struct [(0,273),(0,276),(1,280)],(some [.int .u32 0,.int .i32 0,.int .u32 0])⟩),
 (284,⟨1,16,.iface,(some [.aK .iface])⟩),
 (286,⟨5,56,.struct [(0,282),(3,284),(4,204)],(some [.int .u32 0,.int .i32 0,.int .u32 0,.aK .iface,.nil])⟩),
 (289,⟨20,160,.array 20 253,(some [.int .u64 0,.int .u64 0,.int .u64 0,.int .u64 0,.int .u64 0,.int .u64 0,.int .u64 0,.int .u64 0,.int .u64 0,.int .u64 0,.int .u64 0,.int .u64 0,.int .u64 0,.int .u64 0,.int .u64 0,.int .u64 0,.int .u64 0,.int .u64 0,.int .u64 0,.int .u64 0])⟩),
 (292,⟨1,8,.int .u64,(some [.int .u64 0])⟩),
 (296,⟨1,8,.ptr 3,(some [.aK .ptr])⟩),
 (298,⟨1,8,.ptr 282,(some [.aK .ptr])⟩),
 (302,⟨2,2,.struct [(0,5),(1,5)],(some [.int .u8 0,.int .u8 0])⟩),
 (303,⟨32,32,.array 16 302,(some [.int .u8 0,.int .u8 0,.int .u8 0,.int .u8 0,.int .u8 0,.int .u8 0,.int .u8 0,.int .u8 0,.int .u8 0,.int .u8 0,.int .u8 0,.int .u8 0,.int .u8 0,.int .u8 0,.int .u8 0,.int .u8 0,.int .u8 0,.int .u8 0,.int .u8 0,.int .u8 0,.int .u8 0,.int .u8 0,.int .u8 0,.int .u8 0,.int .u8 0,.int .u8 0,.int .u8 0,.int .u8 0,.int .u8 0,.int .u8 0,.int .u8 0,.int .u8 0])⟩),
 (305,⟨1,8,.ptr 292,(some [.aK .ptr])⟩),
 (307,⟨1,8,.ptr 276,(some [.aK .ptr])⟩),
 (309,⟨1,8,.ptr 258,(some [.aK .ptr])⟩),
 (311,⟨1,8,.ptr 328,(some [.aK .ptr])⟩),
 (313,⟨1,8,.ptr 334,(some [.aK .ptr])⟩),
 (322,⟨1,8,.ptr 280,(some [.aK .ptr])⟩),
 (325,⟨1,8,.ptr 344,(some [.aK .ptr])⟩),
 (328,⟨2,24,.struct [(0,325),(1,9)],(some [.aK .ptr,.str []])⟩),
 (329,⟨1,8,.ptr 332,(some [.aK .ptr])⟩),
 (330,⟨1,24,.slice 329,(some [.nil])⟩),
 (332,⟨5,72,.struct [(0,9),(1,3),(2,9),(3,329),(4,330)],(some [.str [],.int .i64 0,.str [],.aK .ptr,.nil])⟩),
 (336,⟨1,8,.ptr 278,(some [.aK .ptr])⟩),
 (338,⟨1,8,.ptr 21,(some [.aK .ptr])⟩)]
set_option maxRecDepth 100000 in
theorem abj:cN (fun x=>ay prog x.1=some x.2) T:=⟨by show ay prog _=some _;kernel_rfl,by show ay prog _=some _;kernel_rfl,by show ay prog _=some _;kernel_rfl,by show ay prog _=some _;kernel_rfl,by show ay prog _=some _;kernel_rfl,by show ay prog _=some _;kernel_rfl,by show ay prog _=some _;kernel_rfl,by show ay prog _=some _;kernel_rfl,by show ay prog _=some _;kernel_rfl,by show ay prog _=some _;kernel_rfl,by show ay prog _=some _;kernel_rfl,by show ay prog _=some _;kernel_rfl,by show ay prog _=some _;kernel_rfl,by show ay prog _=some _;kernel_rfl,by show ay prog _=some _;kernel_rfl,by show ay prog _=some _;kernel_rfl,by show ay prog _=some _;kernel_rfl,by show ay prog _=some _;kernel_rfl,by show ay prog _=some _;kernel_rfl,by show ay prog _=some _;kernel_rfl,by show ay prog _=some _;kernel_rfl,by show ay prog _=some _;kernel_rfl,by show ay prog _=some _;kernel_rfl,by show ay prog _=some _;kernel_rfl,by show ay prog _=some _;kernel_rfl,by show ay prog _=some _;kernel_rfl,by show ay prog _=some _;kernel_rfl,by show ay prog _=some _;kernel_rfl,by show ay prog _=some _;kernel_rfl,by show ay prog _=some _;kernel_rfl,by show ay prog _=some _;kernel_rfl,by show ay prog _=some _;kernel_rfl,by show ay prog _=some _;kernel_rfl,by show ay prog _=some _;kernel_rfl,by show ay prog _=some _;kernel_rfl,by show ay prog _=some _;kernel_rfl,by show ay prog _=some _;kernel_rfl,by show ay prog _=some _;kernel_rfl,by show ay prog _=some _;kernel_rfl,by show ay prog _=some _;kernel_rfl,by show ay prog _=some _;kernel_rfl,by show ay prog _=some _;kernel_rfl,by show ay prog _=some _;kernel_rfl,by show ay prog _=some _;kernel_rfl,by show ay prog _=some _;kernel_rfl,by show ay prog _=some _;kernel_rfl,by show ay prog _=some _;kernel_rfl,by show ay prog _=some _;kernel_rfl,by show ay prog _=some _;kernel_rfl,by show ay prog _=some _;kernel_rfl,by show ay prog _=some _;kernel_rfl,by show ay prog _=some _;kernel_rfl,by show ay prog _=some _;kernel_rfl,by show ay prog _=some _;kernel_rfl,by show ay prog _=some _;kernel_rfl,by show ay prog _=some _;kernel_rfl,by show ay prog _=some _;kernel_rfl,by show ay prog _=some _;kernel_rfl,by show ay prog _=some _;kernel_rfl,by show ay prog _=some _;kernel_rfl,by show ay prog _=some _;kernel_rfl,by show ay prog _=some _;kernel_rfl,by show ay prog _=some _;kernel_rfl,by show ay prog _=some _;kernel_rfl,by show ay prog _=some _;kernel_rfl,by show ay prog _=some _;kernel_rfl,by show ay prog _=some _;kernel_rfl,by show ay prog _=some _;kernel_rfl,by show ay prog _=some _;kernel_rfl,by show ay prog _=some _;kernel_rfl,by show ay prog _=some _;kernel_rfl,by show ay prog _=some _;kernel_rfl,by show ay prog _=some _;kernel_rfl,by show ay prog _=some _;kernel_rfl,by show ay prog _=some _;kernel_rfl,by show ay prog _=some _;kernel_rfl,by show ay prog _=some _;kernel_rfl,by show ay prog _=some _;kernel_rfl,by show ay prog _=some _;kernel_rfl,by show ay prog _=some _;kernel_rfl,by show ay prog _=some _;kernel_rfl,by show ay prog _=some _;kernel_rfl,by show ay prog _=some _;kernel_rfl,by show ay prog _=some _;kernel_rfl,by show ay prog _=some _;kernel_rfl,by show ay prog _=some _;kernel_rfl,by show ay prog _=some _;kernel_rfl,by show ay prog _=some _;kernel_rfl,by show ay prog _=some _;kernel_rfl,by show ay prog _=some _;kernel_rfl,by show ay prog _=some _;kernel_rfl,by show ay prog _=some _;kernel_rfl,by show ay prog _=some _;kernel_rfl,trivial⟩
theorem kW {α:Type} {t:Nat} {v:α}:∀{l:List (Nat×α)},lk t l=some v→(t,v)∈l
 |(u,w) :: l,h=>by
  unfold lk at h
  split at h
  ·rename_i e;cases h;subst e;simp
  ·exact List.mem_cons_of_mem _ (kW h)
def EQ:List (TypeId×List Sc):=[(53,[.int .i64,.int .i64]),(68,[.bool,.str,.str]),(87,[.int .i64,.int .i64]),(107,[.int .i64,.str,.int .i64]),(278,[.int .i32,.int .u32]),(302,[.int .u8,.int .u8])]
theorem abk:cN (fun x=>sW prog x.1 x.2) EQ:=⟨ji (by kernel_rfl) (by kernel_rfl) (by kernel_rfl) (by kernel_rfl),ji (by kernel_rfl) (by kernel_rfl) (by kernel_rfl) (by kernel_rfl),ji (by kernel_rfl) (by kernel_rfl) (by kernel_rfl) (by kernel_rfl),ji (by kernel_rfl) (by kernel_rfl) (by kernel_rfl) (by kernel_rfl),ji (by kernel_rfl) (by kernel_rfl) (by kernel_rfl) (by kernel_rfl),ji (by kernel_rfl) (by kernel_rfl) (by kernel_rfl) (by kernel_rfl),trivial⟩
theorem mix:prog.follows .mixedOrders=true:=by kernel_rfl
noncomputable def X:List (List (Nat×XI)):=[
 [ (3,{ fn:=f3,var:=[0,1,2,3,4,5,6,7,8,9,10,11,12,13],res:=[4],keys:=[0,1,4,5,6,7,9,10,11,12,13,19,37,55],bk:=[.loc 7,.loc 10,.loc 13],dat:=[0,1,2,3,4,5,6,7,8,9,10,11,12,13] }),
 (4,{ fn:=f4,var:=[0,1,2,3,4,5,6,7,8,9,10],res:=[2],keys:=[0,2,3,4,7,8,9,10,21,35],bk:=[.loc 4,.loc 8],dat:=[0,1,2,3,4,5,6,7,8,9,10] }),
 (5,{ fn:=f5,var:=[0,1,2,3,4],res:=[4],keys:=[0,1,4,9],bk:=[],dat:=[0,1,2,3,4] }),
 (6,{ fn:=f6,var:=[0,1,2,3,5,6,7,8,9],res:=[5,6],keys:=[0,1,4,5,6,7,8,9,12,22],bk:=[.loc 4],dat:=[0,1,2,3,5,6,7,8,9],bK:=true }),
 (7,{ fn:=f7,var:=[0,1,2,3,5,6,7,8,9,10,11,12,13,14,15,16],res:=[5],keys:=[0,1,4,5,7,8,9,10,11,12,14,16,19,21,22,23,24,30,37,38,39,40,47,48,49,50,57,58,59,60,84],bk:=[.loc 4,.loc 7,.loc 9,.loc 11,.loc 16],dat:=[0,1,2,3,5,6,7,8,9,10,11,12,13,14,15,16],bK:=true })],
 [ (8,{ fn:=f8,var:=[0,1,2],res:=[2],keys:=[0,2,3],bk:=[],dat:=[0,1,2] }),
 (9,{ fn:=f9,var:=[0,1,2,3,4],res:=[2],keys:=[0,1,2,4],bk:=[.loc 1,.esc 7 0,.esc 7 1],dat:=[0,1,2,3,4] }),
 (10,{ fn:=f10,var:=[0,1,2,3,4,5,6,7],res:=[0],keys:=[0,1,3,4,5,6,7,36],bk:=[.loc 1,.loc 4],dat:=[0,1,2,3,4,5,6,7] }),
 (11,{ fn:=f11,var:=[0,1,2],res:=[2],keys:=[0,2],bk:=[],dat:=[0,1,2] }),
 (12,{ fn:=f12,var:=[0,1,2,3,4,5,6,11,18],res:=[4,5,6],keys:=[0,1,4,5,6,9,10,11,18],bk:=[],dat:=[0,1,2,3,4,5,6,11,18],bK:=true }),
 (13,{ fn:=f13,var:=[0,1,2,3,4,5],res:=[2],keys:=[0,1,2,3,5,9,28],bk:=[.loc 1,.loc 3],dat:=[0,1,2,3,4,5] }),
 (14,{ fn:=f14,var:=[0,1,3,4,5,6,7],res:=[],keys:=[0,1,2,3,5,7,12,13,14,15,27,28,29,30],bk:=[.loc 1,.loc 2,.loc 3,.loc 5,.loc 7],dat:=[0,1,3,4,5,6,7] }),
 (15,{ fn:=f15,var:=[0,1,2,3,4,5],res:=[2],keys:=[0,1,2,3,5,8,9,10,11],bk:=[.loc 1],dat:=[0,1,4,5] })],
 [ (16,{ fn:=f16,var:=[0,1,2,3,4,5],res:=[2],keys:=[0,1,2,3,4,5,7,8,9,10,15],bk:=[.loc 1,.loc 5],dat:=[0,1,2,3,4,5] }),
 (17,{ fn:=f17,var:=[0,1,2,3,4,5,6,7,8,9,10,11,12,13,14,15,16,17],res:=[4],keys:=[0,1,4,5,7,8,9,10,12,13,15,16,17,21,22,23,24,41,42,43,44,62,70,80],bk:=[.loc 17],dat:=[0,1,2,3,4,5,6,7,8,9,10,11,12,13,14,15,16,17] }),
 (18,{ fn:=f18,var:=[0,1,2,3,4,5,6,7,8,9,10,11,12,13,14,15],res:=[2,3],keys:=[0,1,2,3,5,6,7,8,9,10,11,12,13,14,15,25,27,28,29,30,36,46,53,54,55,56,62,64,82,83,84,85,94],bk:=[.loc 1,.loc 5,.loc 9,.loc 14,.loc 51],dat:=[0,1,2,3,4,5,6,7,8,9,10,11,13,14,15] }),
 (19,{ fn:=f19,var:=[0,1,2],res:=[0],keys:=[0,1,2],bk:=[.loc 1,.loc 2],dat:=[0,1,2] }),
 (20,{ fn:=f20,var:=[0,1,2,3,4,5,6,7,8],res:=[4,5],keys:=[0,1,2,4,5,6,7,8,16],bk:=[.loc 2,.esc 12 0,.esc 12 1],dat:=[0,1,2,3,4,5,6,7,8] }),
 (21,{ fn:=f21,var:=[0,1,2,3,4,5,6,7],res:=[4],keys:=[0,1,2,4,5,6,7,15],bk:=[.loc 2,.esc 11 0,.esc 11 1],dat:=[0,1,2,3,4,5,6,7] }),
 (22,{ fn:=f22,var:=[0,1,2,3,4,5,6,7],res:=[4],keys:=[0,1,2,4,6,7,15],bk:=[.loc 2,.esc 11 0,.esc 11 1],dat:=[0,1,2,3,4,5,6,7] }),
 (23,{ fn:=f23,var:=[0,1,2,3,4,5,6,7,8,9,10,11,12,13,14,15,16,17],res:=[2,3,4],keys:=[0,2,3,4,5,6,7,8,9,10,11,12,13,16,17,24,28,34,40,63,70,81,94,100],bk:=[.loc 9,.loc 20],dat:=[0,1,2,3,4,5,6,7,8,9,10,11,12,13,14,15,16,17],bK:=true })],
 [ (24,{ fn:=f24,var:=[0,2,3,4,5,6,7,8,9,10,11,12,13],res:=[2,3,4],keys:=[0,2,3,4,5,6,7,8,9,12,13,20,37,55,76,93,104,122],bk:=[.loc 16],dat:=[0,2,3,4,5,6,7,8,9,10,11,12,13],bK:=true }),
 (25,{ fn:=f25,var:=[0,2,3,4,5,6,7,8,9,10,11,12,13,14,15,16,17,18,19],res:=[2,3,4],keys:=[0,2,3,4,5,6,7,8,9,10,11,12,13,14,15,18,19,30,60,70,80,94,120,124,126,128,132],bk:=[.loc 22],dat:=[0,2,3,4,5,6,7,8,9,10,11,12,13,14,15,16,17,18,19],bK:=true }),
 (26,{ fn:=f26,var:=[0,1,2],res:=[2],keys:=[0,2],bk:=[],dat:=[0,1,2] }),
 (27,{ fn:=f27,var:=[0,1,2,3,4,5,6,7],res:=[5,6],keys:=[0,1,4,5,6,7,10,20],bk:=[.loc 4],dat:=[0,1,2,3,4,5,6,7],bK:=true }),
 (28,{ fn:=f28,var:=[0,1,2,3,4,5],res:=[2],keys:=[0,1,2,3,5,7,8,9,10],bk:=[.loc 1,.loc 3,.loc 5],dat:=[0,1,2,3,4,5] }),
 (29,{ fn:=f29,var:=[0,1,2,3,4,5],res:=[4],keys:=[0,1,4,5,10,12,13,14,24],bk:=[],dat:=[0,1,2,3,4,5] }),
 (30,{ fn:=f30,var:=[0,1],res:=[],keys:=[0,1,2],bk:=[.loc 1,.loc 2],dat:=[0,1] }),
 (31,{ fn:=f31,var:=[0,1],res:=[],keys:=[0,1,2],bk:=[.loc 1,.loc 2],dat:=[0,1] })],
 [ (32,{ fn:=f32,var:=[0,1,2,3,4,5],res:=[4,5],keys:=[0,1,2,4,5,9,27],bk:=[.loc 2],dat:=[0,1,2,3,4,5],bK:=true }),
 (33,{ fn:=f33,var:=[0,1,2,3,4,5,6,7,8,9,10,11,12,13,14,15],res:=[4],keys:=[0,1,4,5,6,7,9,10,11,12,13,14,15,18,29,30,31,32,47,69,79,80,81,82,86],bk:=[.loc 9],dat:=[0,1,2,3,4,5,6,7,8,9,10,11,12,13,14,15] }),
 (34,{ fn:=f34,var:=[0,1,2,3,4,5,14,20],res:=[2],keys:=[0,2,3,5,6,7,8,9,13,14,20],bk:=[.loc 5],dat:=[0,1,2,3,4,5,14,20] }),
 (35,{ fn:=f35,var:=[0,1,2,3,4,5,6,7,27,41,55],res:=[4],keys:=[0,1,4,5,6,7,16,20,27,41,55,76],bk:=[.loc 7],dat:=[0,1,2,3,4,5,6,7,27,41,55] }),
 (36,{ fn:=f36,var:=[0,1,2,3,4,5],res:=[2],keys:=[0,2,3,5,6,7,8,9],bk:=[.loc 5],dat:=[0,1,2,3,4,5] }),
 (37,{ fn:=f37,var:=[0,1,2,3,4,5,6],res:=[2],keys:=[0,2,3,5,6,7,8,9,10,15,23],bk:=[.loc 5],dat:=[0,1,2,3,4,5,6] }),
 (38,{ fn:=f38,var:=[0,1,2,3,4,5,6,7,8,9,10,11,12,13,14],res:=[6,7],keys:=[0,1,2,6,7,8,9,11,12,13,14,27,28,29,30,31,46,49],bk:=[.loc 11],dat:=[0,1,2,3,4,5,6,7,8,9,10,11,12,13,14],bK:=true }),
 (39,{ fn:=f39,var:=[0,1,2,3],res:=[2,3],keys:=[0,2,3,15,28,33],bk:=[],dat:=[0,1,2,3] })],
 [ (40,{ fn:=f40,var:=[0,1,2,3,4,5,6,7,8,9,10,11],res:=[6],keys:=[0,1,2,6,7,8,9,11,34,71,79,95],bk:=[.loc 7,.loc 10],dat:=[0,1,3,4,5,6,7,8,9,10,11] }),
 (41,{ fn:=f41,var:=[0,1,2,3,4,5,6,7,8,9],res:=[4,5,6],keys:=[0,1,2,4,5,6,7,8,9,16],bk:=[.loc 2,.esc 12 0,.esc 12 1],dat:=[0,1,2,3,4,5,6,7,8,9] }),
 (42,{ fn:=f42,var:=[0,1,2,3,4,5,6],res:=[4,5],keys:=[0,1,4,5,6,31,58],bk:=[],dat:=[0,1,2,3,4,5,6] }),
 (43,{ fn:=f43,var:=[0,1,2,3,4,5,6],res:=[4],keys:=[0,1,4,5,18],bk:=[],dat:=[0,1,2,3,4,5,6] }),
 (44,{ fn:=f44,var:=[0,1,2,3,4],res:=[4],keys:=[0,1,4],bk:=[],dat:=[0,1,2,3,4] }),
 (45,{ fn:=f45,var:=[0,1,2,3,4,5,6,7],res:=[6],keys:=[0,1,2,6,7,15,26],bk:=[],dat:=[0,1,2,3,4,5,6,7] }),
 (46,{ fn:=f46,var:=[0,1,3,4,5,6,15,20],res:=[3],keys:=[0,2,3,4,5,6,10,15,20,52],bk:=[.loc 2],dat:=[0,1,3,4,5,6,15,20] }),
 (47,{ fn:=f47,var:=[0,1,2,3],res:=[2],keys:=[0,2,3,7,13],bk:=[],dat:=[0,1,2,3] })],
 [ (48,{ fn:=f48,var:=[0,1,2],res:=[2],keys:=[0,2],bk:=[],dat:=[0,1,2] }),
 (49,{ fn:=f49,var:=[0,1,2,3,4,5,6,7,8,9,10,11,12,13,14,15,16,17,41,48],res:=[4,5,6,7],keys:=[0,1,4,5,6,7,8,9,10,11,12,13,14,15,16,17,21,31,35,40,41,48,65,87,91,107],bk:=[.loc 14],dat:=[0,1,2,3,4,5,6,7,8,9,10,11,12,13,14,15,16,17,41,48],bK:=true }),
 (50,{ fn:=f50,var:=[0,1,2,3,4,5,6,7],res:=[],keys:=[0,1,2,3],bk:=[],dat:=[0,1,2,3,4,5,6,7] }),
 (51,{ fn:=f51,var:=[0,1,2],res:=[2],keys:=[0,2,8],bk:=[],dat:=[0,1,2] }),
 (52,{ fn:=f52,var:=[0,1,2],res:=[2],keys:=[0,2],bk:=[],dat:=[0,1,2] }),
 (53,{ fn:=f53,var:=[0,1,2,3,4,5,6],res:=[6],keys:=[0,1,2,6,16,23],bk:=[],dat:=[0,1,2,3,4,5,6] }),
 (54,{ fn:=f54,var:=[0,1,2],res:=[2],keys:=[0,2],bk:=[],dat:=[0,1,2] }),
 (55,{ fn:=f55,var:=[0,1,2,3,4,5],res:=[4],keys:=[0,1,4,5,7,8,9,24],bk:=[],dat:=[0,1,2,3,4,5] })],
 [ (56,{ fn:=f56,var:=[0,1,2,3,4,5,6,7,8],res:=[4,5,6],keys:=[0,1,4,5,6,7,8,20,46,50,58,82],bk:=[],dat:=[0,1,2,3,4,5,6,7,8] }),
 (57,{ fn:=f57,var:=[0,1,2,3,4,5,6,8,15],res:=[4,5,6],keys:=[0,1,4,5,6,7,8,15],bk:=[],dat:=[0,1,2,3,4,5,6,8,15],bK:=true }),
 (58,{ fn:=f58,var:=[0,1,2,3,4,5],res:=[4,5],keys:=[0,1,4,5],bk:=[],dat:=[0,1,2,3,4,5] }),
 (59,{ fn:=f59,var:=[0,1,2],res:=[2],keys:=[0,2],bk:=[],dat:=[0,1,2] }),
 (60,{ fn:=f60,var:=[0,1,2],res:=[2],keys:=[0,2,4],bk:=[],dat:=[0,1,2] }),
 (61,{ fn:=f61,var:=[0,1,2],res:=[2],keys:=[0,2,4],bk:=[],dat:=[0,1,2] }),
 (62,{ fn:=f62,var:=[0,1,2,3,4,5,6,7,15,23],res:=[4,5],keys:=[0,1,4,5,6,7,8,15,23],bk:=[],dat:=[0,1,2,3,4,5,6,7,15,23],bK:=true }),
 (63,{ fn:=f63,var:=[0,1,2,3,4],res:=[2],keys:=[0,2,3,4,9,10,11],bk:=[],dat:=[0,1,2,3,4] })],
 [ (64,{ fn:=f64,var:=[0,1,2,3,4,5,6,7,8,9,10],res:=[4],keys:=[0,1,4,5,6,8,9,10,16,17,18,24,25,26,27,35,36,37,78],bk:=[.loc 8],dat:=[0,1,2,3,4,5,6,7,8,9,10] }),
 (65,{ fn:=f65,var:=[0,1,2,3],res:=[2],keys:=[0,2,3],bk:=[],dat:=[0,1,2,3] }),
 (66,{ fn:=f66,var:=[0,1,2,3,4,5],res:=[2],keys:=[0,2,3,4,5,9,15,36,48],bk:=[],dat:=[0,1,2,3,4,5] }),
 (67,{ fn:=f67,var:=[0,1,2],res:=[2],keys:=[0,1,2,5],bk:=[.loc 1],dat:=[0,1,2] }),
 (68,{ fn:=f68,var:=[0,1,2,3,18,25,32],res:=[2],keys:=[0,2,3,18,25,32],bk:=[],dat:=[0,1,2,3,18,25,32] }),
 (69,{ fn:=f69,var:=[0,1,2,3,4,5,16],res:=[4],keys:=[0,1,2,3,4,5,16],bk:=[.loc 2,.loc 3],dat:=[0,1,2,3,4,5,16] }),
 (70,{ fn:=f70,var:=[0,1,2,3,4,5,6,7,8,9],res:=[6],keys:=[0,1,2,4,6,7,9,12,22,28],bk:=[.loc 4,.loc 8],dat:=[0,1,2,3,4,5,6,7,8,9] }),
 (71,{ fn:=f71,var:=[0,1,2,3,4,5,6,7],res:=[4],keys:=[0,1,4,5,6],bk:=[.loc 5],dat:=[0,1,2,3,4,5,6,7] })],
 [ (72,{ fn:=f72,var:=[0,1,2,3,4],res:=[4],keys:=[0,1,3,4],bk:=[.loc 3],dat:=[0,1,2,3,4] }),
 (73,{ fn:=f73,var:=[0,1,2,3,4,5,6,7,8,25,31,42,53,64],res:=[2,3],keys:=[0,2,3,4,5,7,8,12,14,15,16,17,24,25,31,42,53,64],bk:=[.loc 7],dat:=[0,1,2,3,4,5,6,7,8,25,31,42,53,64] }),
 (74,{ fn:=f74,var:=[0,1,2,3],res:=[2],keys:=[0,2,3],bk:=[],dat:=[0,1,2,3] }),
 (75,{ fn:=f75,var:=[0,1,2,3,4],res:=[2],keys:=[0,2,3,4,12,16,43],bk:=[],dat:=[0,1,2,3,4] }),
 (76,{ fn:=f76,var:=[0,1,2,3,4,5],res:=[2],keys:=[0,2,3,4,5,8,12,39],bk:=[],dat:=[0,1,2,3,4,5] }),
 (77,{ fn:=f77,var:=[0,1,2,3,5,7,13],res:=[5],keys:=[0,1,4,5,6,7,13],bk:=[.loc 4],dat:=[0,1,2,3,5,7,13] }),
 (78,{ fn:=f78,var:=[0,1,2,3,4],res:=[4],keys:=[0,1,4],bk:=[],dat:=[0,1,2,3,4] }),
 (79,{ fn:=f79,var:=[0,1,2,3],res:=[2],keys:=[0,2,3,15],bk:=[],dat:=[0,1,2,3] })],
 [ (80,{ fn:=f80,var:=[0,1,2,3,4,5,6,7,8,9,10,11,12,13,14],res:=[2,3,4],keys:=[0,2,3,4,5,6,7,8,9,10,11,13,14,17,23,33,39,51,64,70],bk:=[.esc 19 0,.esc 19 1],dat:=[0,1,2,3,4,5,6,7,8,9,10,11,12,13,14],bK:=true }),
 (81,{ fn:=f81,var:=[0,1,2,3,4,5,6,7,8,9,10,11,12,13,14,15],res:=[2,3,4],keys:=[0,2,3,4,5,6,7,8,9,10,11,12,14,15,18,25,32,59,69,90],bk:=[.esc 20 0,.esc 20 1],dat:=[0,1,2,3,4,5,7,8,9,10,11,12,13,14,15],bK:=true }),
 (82,{ fn:=f82,var:=[0,1,2,3,4,5],res:=[2,3,4],keys:=[0,2,3,4,5,8,24,32],bk:=[.loc 13,.esc 11 0,.esc 11 1],dat:=[0,1,2,3,4,5],bK:=true }),
 (83,{ fn:=f83,var:=[0,1],res:=[],keys:=[0,6,19],bk:=[],dat:=[0,1] }),
 (84,{ fn:=f84,var:=[0,1,2,3,4,5],res:=[2,3,4],keys:=[0,2,3,4,5,13],bk:=[.esc 8 0,.esc 8 1],dat:=[0,1,2,3,4,5],bK:=true }),
 (85,{ fn:=f85,var:=[0,1,2,3,4,5],res:=[2,3,4],keys:=[0,2,3,4,5,13],bk:=[.esc 8 0,.esc 8 1],dat:=[0,1,2,3,4,5],bK:=true }),
 (86,{ fn:=f86,var:=[0,1,2,3,4,5],res:=[2,3,4],keys:=[0,2,3,4,5,13],bk:=[.esc 8 0,.esc 8 1],dat:=[0,1,2,3,4,5],bK:=true }),
 (87,{ fn:=f87,var:=[0,1,2,3,4],res:=[4],keys:=[0,1,2,4],bk:=[.loc 2],dat:=[0,1,2,3,4] })],
 [ (88,{ fn:=f88,var:=[0,1,2],res:=[2],keys:=[0,2,4],bk:=[],dat:=[0,1,2] }),
 (89,{ fn:=f89,var:=[0,1,2,3],res:=[],keys:=[0,2,3,9],bk:=[],dat:=[0,1,2,3] }),
 (90,{ fn:=f90,var:=[0,1,2,3,4,13,26,33,42],res:=[2],keys:=[0,1,2,3,4,12,13,26,33,42],bk:=[.loc 1],dat:=[0,1,2,3,4,13,26,33,42] }),
 (91,{ fn:=f91,var:=[0,1,2,3,4],res:=[2],keys:=[0,2,3,4,12,13,14,15,16,23,33],bk:=[.loc 4],dat:=[0,1,2,3,4] }),
 (92,{ fn:=f92,var:=[0,1,2,3,4,5,6,7,8,9,10,11,12,13,14,15,16,17],res:=[4],keys:=[0,1,4,5,6,7,8,9,10,11,13,15,17,47,50,51,52,53,64,65,66,67,78,80,84],bk:=[.loc 13,.loc 15],dat:=[0,1,2,3,4,5,6,7,8,9,10,12,13,14,15,16,17] }),
 (93,{ fn:=f93,var:=[0,1,2,3,9,11,12,13,14,15,16,17,18,20,21,22],res:=[9],keys:=[0,1,2,3,4,8,9,10,11,12,13,14,15,16,17,18,19,20,21,22,23,28,38,52,68,71,72,73,74,89,123,133,150],bk:=[.loc 4,.loc 8,.loc 10,.loc 19,.loc 23],dat:=[0,1,2,3,9,11,12,13,14,15,16,17,18,20,21,22],bK:=true }),
 (94,{ fn:=f94,var:=[0,1,2,3,4],res:=[4],keys:=[0,1,4],bk:=[],dat:=[0,1,2,3,4] }),
 (95,{ fn:=f95,var:=[0,1,2,3,4,5],res:=[4],keys:=[0,1,4,5,7,8,9,16],bk:=[],dat:=[0,1,2,3,4,5] })],
 [ (96,{ fn:=f96,var:=[0,2,3],res:=[3],keys:=[0,1,2,3],bk:=[.loc 2],dat:=[0,2,3] }),
 (97,{ fn:=f97,var:=[0,1,2],res:=[2],keys:=[0,2],bk:=[],dat:=[0,1,2] }),
 (98,{ fn:=f98,var:=[0,1,2,3,4,5,6,25,32,38,44],res:=[4],keys:=[0,1,4,5,6,10,25,32,38,44],bk:=[],dat:=[0,1,2,3,4,5,6,25,32,38,44] }),
 (99,{ fn:=f99,var:=[0,1,2,3,4,5,6],res:=[2],keys:=[0,2,3,4,6,8,9,10,11,22],bk:=[.loc 6],dat:=[0,1,2,3,5,6] }),
 (100,{ fn:=f100,var:=[0,1,2,3,4,5,6,7,8,9,10,11,12,13],res:=[6],keys:=[0,1,2,6,7,8,9,11,12,13,22,34,35,36,37,41,50],bk:=[.loc 11],dat:=[0,1,2,3,4,5,6,8,9,10,11,12,13] }),
 (101,{ fn:=f101,var:=[0,1,2,3,4],res:=[2],keys:=[0,2,3,4,8,9,10],bk:=[],dat:=[0,1,2,3,4] }),
 (102,{ fn:=f102,var:=[0,1,3,4,5,6,7,8,11,29,50],res:=[3],keys:=[0,2,3,4,5,7,8,10,11,25,29,31,32,33,42,50],bk:=[.loc 2,.loc 4],dat:=[0,1,3,4,5,6,7,8,11,29,50] }),
 (103,{ fn:=f103,var:=[0,1,3,4,5,6,9,12,18],res:=[3],keys:=[0,2,3,5,6,8,9,12,18,22,24,25,26,32,39,56],bk:=[.loc 2],dat:=[0,1,3,4,5,6,9,12,18] })],
 [ (104,{ fn:=f104,var:=[0,1,3,6,12],res:=[3],keys:=[0,2,3,5,6,9,12,15],bk:=[.loc 2],dat:=[0,1,3,6,12] }),
 (105,{ fn:=f105,var:=[0,1,2,3,4,5,6],res:=[2],keys:=[0,2,3,4,5,6,8,9,10,18,25,38],bk:=[.loc 5],dat:=[0,1,2,3,4,5,6] }),
 (106,{ fn:=f106,var:=[0,1,2],res:=[2],keys:=[0,2],bk:=[.loc 5],dat:=[0,1,2] }),
 (107,{ fn:=f107,var:=[0,1,2,3,4,5,6],res:=[2,3,4],keys:=[0,2,3,4,5,6,9,11,33],bk:=[.loc 6],dat:=[0,1,2,3,4,5,6] }),
 (108,{ fn:=f108,var:=[0,1,2,3,4],res:=[4],keys:=[0,1,4],bk:=[],dat:=[0,1,2,3,4] }),
 (109,{ fn:=f109,var:=[0,1,2,3,4,5,6,7],res:=[],keys:=[0,1,2,3],bk:=[],dat:=[0,1,2,3,4,5,6,7] }),
 (110,{ fn:=f110,var:=[0,1,2],res:=[2],keys:=[0,2],bk:=[],dat:=[0,1,2] }),
 (111,{ fn:=f111,var:=[0,1,2,3,4,5,6,7,8,9],res:=[4,5],keys:=[0,1,4,5,6,9],bk:=[],dat:=[0,1,2,3,4,5,6,7,8,9] })],
 [ (112,{ fn:=f112,var:=[0,1,2,3,4],res:=[2],keys:=[0,2,3,4,12,42],bk:=[],dat:=[0,1,2,3,4] }),
 (113,{ fn:=f113,var:=[0,1,2,3,4],res:=[4],keys:=[0,1,4,14,18],bk:=[],dat:=[0,1,2,3,4] }),
 (114,{ fn:=f114,var:=[0,1,2,3,4,5,6,7,8,9,10,11,12,71,87,100],res:=[4,5],keys:=[0,1,4,5,6,7,8,9,10,11,12,27,33,49,68,71,87,100],bk:=[],dat:=[0,1,2,3,4,5,6,7,8,9,10,11,12,71,87,100] }),
 (115,{ fn:=f115,var:=[0],res:=[],keys:=[],bk:=[],dat:=[0] }),
 (116,{ fn:=f116,var:=[0,1,2,3,4,5,6,7,8],res:=[2,3,4],keys:=[0,2,3,4,5,6,7,8,14,23,34],bk:=[.loc 10],dat:=[0,1,2,3,4,5,6,7,8] }),
 (117,{ fn:=f117,var:=[0,1,2],res:=[2],keys:=[0,2],bk:=[],dat:=[0,1,2] }),
 (118,{ fn:=f118,var:=[0,1,2,3,4,5,6,7,8],res:=[2,3,4],keys:=[0,2,3,4,5,6,7,8,14,23],bk:=[.loc 10],dat:=[0,1,2,3,4,5,6,7,8] }),
 (119,{ fn:=f119,var:=[0,1,2,3,4,5,6,7,8],res:=[2,3,4],keys:=[0,2,3,4,5,6,7,8,14,23],bk:=[.loc 10],dat:=[0,1,2,3,4,5,6,7,8] })],
 [ (120,{ fn:=f120,var:=[0,1,2,3,4],res:=[2],keys:=[0,2,3,4,22,26,50],bk:=[],dat:=[0,1,2,3,4] }),
 (121,{ fn:=f121,var:=[0,1,2,3,4,5,12,35,45,61],res:=[4],keys:=[0,1,4,5,11,12,35,45,61],bk:=[.loc 5],dat:=[0,1,2,3,4,5,12,35,45,61] }),
 (122,{ fn:=f122,var:=[0,1,2],res:=[2],keys:=[0,1,2],bk:=[.loc 1],dat:=[0,1,2] }),
 (123,{ fn:=f123,var:=[0,1,2,3,4,5,6],res:=[4],keys:=[0,1,3,4,6,7,8,9,10,22,38],bk:=[.loc 3,.loc 6],dat:=[0,1,2,3,4,5,6] }),
 (124,{ fn:=f124,var:=[0,1,2,3,4,5,6,13,22,36,56],res:=[2,3,4],keys:=[0,2,3,4,6,7,8,9,10,13,22,36,56],bk:=[.loc 6],dat:=[0,1,2,3,4,5,6,13,22,36,56],bK:=true }),
 (125,{ fn:=f125,var:=[0,1,2,3,4,5],res:=[4],keys:=[0,1,4,5,10,12,13,14,24],bk:=[],dat:=[0,1,2,3,4,5] }),
 (126,{ fn:=f126,var:=[0,1,2,3,4,5],res:=[2],keys:=[0,2,3,5,6,7,8,9,13],bk:=[.loc 5],dat:=[0,1,2,3,4,5] }),
 (127,{ fn:=f127,var:=[0,1,2,3,4,5],res:=[4],keys:=[0,1,4,5,10,12,13,14,24],bk:=[],dat:=[0,1,2,3,4,5] })],
 [ (128,{ fn:=f128,var:=[0,1,2,3,4,5],res:=[2],keys:=[0,2,3,5,6,7,8,9,14],bk:=[.loc 5],dat:=[0,1,2,3,4,5] }),
 (129,{ fn:=f129,var:=[0,1,2,3,4,5,6,7],res:=[4],keys:=[0,1,4,5,7,8,9,10,11,30],bk:=[.loc 7],dat:=[0,1,2,3,4,5,6,7] }),
 (130,{ fn:=f130,var:=[0,1,2,3,4,5,7,13],res:=[4,5],keys:=[0,1,4,5,6,7,13],bk:=[],dat:=[0,1,2,3,4,5,7,13],bK:=true }),
 (131,{ fn:=f131,var:=[0,1,2,3,4,5,7,13],res:=[4,5],keys:=[0,1,4,5,6,7,13],bk:=[],dat:=[0,1,2,3,4,5,7,13] }),
 (132,{ fn:=f132,var:=[0,1,2,3,4],res:=[4],keys:=[0,1,4],bk:=[],dat:=[0,1,2,3,4] }),
 (133,{ fn:=f133,var:=[0,1,2,3,4,5,6,7,8,9,10,11,12,13,14],res:=[6],keys:=[0,1,2,6,7,8,9,10,11,13,15,16,17,18],bk:=[.loc 10],dat:=[0,1,2,3,4,5,6,7,8,9,10,11,12,13,14] }),
 (134,{ fn:=f134,var:=[0,1,2],res:=[2],keys:=[0,2],bk:=[],dat:=[0,1,2] }),
 (135,{ fn:=f135,var:=[0,1,2],res:=[2],keys:=[0,2],bk:=[],dat:=[0,1,2] })],
 [ (136,{ fn:=f136,var:=[0,1],res:=[],keys:=[0,2],bk:=[.loc 2],dat:=[0,1] }),
 (137,{ fn:=f137,var:=[0,1,3,4],res:=[3],keys:=[0,2,3,4,12,18,23],bk:=[.loc 2],dat:=[0,1,3,4] }),
 (138,{ fn:=f138,var:=[0,1,2,3,4],res:=[4],keys:=[0,1,4],bk:=[],dat:=[0,1,2,3,4] }),
 (139,{ fn:=f139,var:=[0,1,3,4,5,6,7,18,31],res:=[3,4],keys:=[0,2,3,4,5,6,7,11,18,31],bk:=[.loc 2,.loc 7],dat:=[0,1,3,4,5,6,7,18,31] }),
 (140,{ fn:=f140,var:=[0,1,2,4],res:=[2],keys:=[0,2,3,4],bk:=[],dat:=[0,1,2,4] }),
 (141,{ fn:=f141,var:=[0,1,2,3,4,5],res:=[2],keys:=[0,2,3],bk:=[],dat:=[0,1,2,3,4,5] }),
 (142,{ fn:=f142,var:=[0,1,4,5,6,7,8,9,10,11,12,13,16,24,31,36],res:=[4],keys:=[0,1,4,5,6,7,8,9,10,11,12,13,16,24,31,36,59,64,73,93,107,114,132,139],bk:=[],dat:=[0,1,4,5,6,7,8,9,10,11,12,13,16,24,31,36] }),
 (143,{ fn:=f143,var:=[0,1,2,3,4,5,6],res:=[4,5,6],keys:=[0,1,4,5,6],bk:=[],dat:=[0,1,2,3,4,5,6] })],
 [ (144,{ fn:=f144,var:=[0,1,2,3,4,5,6],res:=[4],keys:=[0,1,4,5,6,12,21,31],bk:=[.loc 5],dat:=[0,1,2,3,4,5,6] }),
 (145,{ fn:=f145,var:=[0,1,2,3,4,5,6],res:=[4,5,6],keys:=[0,1,4,5,6,17,23,27,41,47,60],bk:=[],dat:=[0,1,2,3,4,5,6] }),
 (146,{ fn:=f146,var:=[0,1,2,3,4,5,6,7],res:=[],keys:=[0,1,2,3,15],bk:=[],dat:=[0,1,2,3,4,5,6,7] }),
 (147,{ fn:=f147,var:=[0,1,2,3,4,5,6,7,8,9,10,11,12,13,14],res:=[10,11],keys:=[0,1,2,3,4,10,11,13,14,32,39,55],bk:=[],dat:=[0,1,2,3,4,5,6,7,8,9,10,11,12,13,14] }),
 (148,{ fn:=f148,var:=[0,1,2,3,4,5,6,7,8,9,10,11,12,13,14,15,21,42,60],res:=[6,7],keys:=[0,1,2,6,7,8,9,10,11,12,13,14,15,20,21,36,42,51,60,72],bk:=[.loc 9],dat:=[0,1,2,3,4,5,6,7,8,9,10,11,12,13,14,15,21,42,60] }),
 (149,{ fn:=f149,var:=[0,1],res:=[],keys:=[0,7],bk:=[],dat:=[0,1] }),
 (150,{ fn:=f150,var:=[0,1,2,6,7,8,9,10,11,12,13,29,34,63,91],res:=[6,7],keys:=[0,1,2,6,7,8,9,10,11,12,13,29,34,59,63,69,78,91,105,124],bk:=[],dat:=[0,1,2,6,7,8,9,10,11,12,13,29,34,63,91] }),
 (151,{ fn:=f151,var:=[0,1,2,3,4,5,6,7,8,9,10,11,22,36,41],res:=[6,7],keys:=[0,1,2,6,7,8,9,10,11,22,36,41,55,69],bk:=[],dat:=[0,1,2,3,4,5,6,7,8,9,10,11,22,36,41] })],
 [ (152,{ fn:=f152,var:=[0,1,2,3,4,5,6],res:=[2],keys:=[0,2,3,4,5,6,22,26,45],bk:=[],dat:=[0,1,2,3,4,5,6] }),
 (153,{ fn:=f153,var:=[0,1,2,3,4,5],res:=[2],keys:=[0,2,3],bk:=[],dat:=[0,1,2,3,4,5] }),
 (154,{ fn:=f154,var:=[0,1,2],res:=[],keys:=[0,2],bk:=[],dat:=[0,1,2] }),
 (155,{ fn:=f155,var:=[0,1,2,3,4,5,6],res:=[2,3],keys:=[0,2,3,4,6,14],bk:=[.esc 9 0,.esc 9 1],dat:=[0,1,2,3,4,5,6],bK:=true }),
 (156,{ fn:=f156,var:=[0,1,2,3,4,5,6],res:=[2,3],keys:=[0,2,3,4,6,14],bk:=[.esc 9 0,.esc 9 1],dat:=[0,1,2,3,4,5,6],bK:=true }),
 (157,{ fn:=f157,var:=[0,1,2,3,4,5,6],res:=[2,3],keys:=[0,2,3,4,6,14],bk:=[.esc 9 0,.esc 9 1],dat:=[0,1,2,3,4,5,6],bK:=true }),
 (158,{ fn:=f158,var:=[0,1,2,3,4,5,6,7,8,24,32,46,54,62],res:=[2,3],keys:=[0,2,3,4,5,6,8,12,16,17,18,19,23,24,32,43,45,46,54,62],bk:=[.loc 8,.esc 15 0,.esc 15 1],dat:=[0,1,2,3,4,5,6,7,8,24,32,46,54,62] }),
 (159,{ fn:=f159,var:=[0,1,2,3,4,5,6,7,8,24,32],res:=[2,3],keys:=[0,2,3,4,5,6,8,12,16,17,18,19,23,24,32],bk:=[.loc 8,.esc 15 0,.esc 15 1],dat:=[0,1,2,3,4,5,6,7,8,24,32] })],
 [ (160,{ fn:=f160,var:=[0,1,2,3,4,5,6,7,8,24,32],res:=[2,3],keys:=[0,2,3,4,5,6,8,12,16,17,18,19,23,24,32],bk:=[.loc 8,.esc 15 0,.esc 15 1],dat:=[0,1,2,3,4,5,6,7,8,24,32] }),
 (161,{ fn:=f161,var:=[0,1,2,3,4,5],res:=[4],keys:=[0,1,4,5,10,12,13,14,24],bk:=[],dat:=[0,1,2,3,4,5] }),
 (162,{ fn:=f162,var:=[0,1,2,3,4],res:=[4],keys:=[0,1,4],bk:=[],dat:=[0,1,2,3,4] }),
 (163,{ fn:=f163,var:=[0,1,2,3,4,5,6,7,8,9],res:=[4],keys:=[0,1,4,5,6,7,9,11,17,23,34],bk:=[.loc 5],dat:=[0,1,2,3,4,5,6,7,8,9] }),
 (164,{ fn:=f164,var:=[0,1,2,3,4],res:=[4],keys:=[0,1,4],bk:=[],dat:=[0,1,2,3,4] }),
 (165,{ fn:=f165,var:=[0,1,2,3,4],res:=[4],keys:=[0,1,4],bk:=[],dat:=[0,1,2,3,4] }),
 (166,{ fn:=f166,var:=[0,1,2,3,4],res:=[4],keys:=[0,1,4],bk:=[],dat:=[0,1,2,3,4] }),
 (167,{ fn:=f167,var:=[0,1,2,3,4],res:=[4],keys:=[0,1,4],bk:=[],dat:=[0,1,2,3,4] })],
 [ (168,{ fn:=f168,var:=[0,1],res:=[],keys:=[],bk:=[],dat:=[0,1] }),
 (169,{ fn:=f169,var:=[0,1,2],res:=[2],keys:=[0,2],bk:=[],dat:=[0,1,2] }),
 (170,{ fn:=f170,var:=[0,1,2,3,4,5,6,7,8,9,10],res:=[4],keys:=[0,1,4,5,6,7,8,9,10,20,39,44,77],bk:=[],dat:=[0,1,2,3,4,5,6,7,8,9,10] }),
 (171,{ fn:=f171,var:=[0,1,2,3,4,5,6,7],res:=[4,5,6],keys:=[0,1,4,5,6,7,12],bk:=[],dat:=[0,1,2,3,4,5,6,7] }),
 (172,{ fn:=f172,var:=[0,1,2,3,4],res:=[4],keys:=[0,1,4,13],bk:=[],dat:=[0,1,2,3,4] }),
 (173,{ fn:=f173,var:=[0,1,2,3,4,5],res:=[3],keys:=[0,2,3,4,5,9,16],bk:=[.loc 2],dat:=[0,1,2,3,4,5] }),
 (174,{ fn:=f174,var:=[0,1,2,3,4],res:=[4],keys:=[0,1,4,7,12],bk:=[],dat:=[0,1,2,3,4] }),
 (175,{ fn:=f175,var:=[0,1,2,3,4,5,6],res:=[4],keys:=[0,1,4,5,6,9,18],bk:=[],dat:=[0,1,2,3,4,5,6] })],
 [ (176,{ fn:=f176,var:=[0,1,2,3,4,5,6,7],res:=[6],keys:=[0,1,2,4,6,7,10,32,67],bk:=[.loc 4],dat:=[0,1,2,3,4,5,6,7] }),
 (177,{ fn:=f177,var:=[0,1,2,3,4,5,8,11,14,17],res:=[2,3,4],keys:=[0,2,3,4,5,8,11,14,17],bk:=[],dat:=[0,1,2,3,4,5,8,11,14,17] }),
 (178,{ fn:=f178,var:=[0,1,2],res:=[2],keys:=[0,2,4],bk:=[],dat:=[0,1,2] }),
 (179,{ fn:=f179,var:=[0,1,2,3,4,5,6],res:=[6],keys:=[0,1,2,6,8],bk:=[],dat:=[0,1,2,3,4,5,6] }),
 (180,{ fn:=f180,var:=[0,1,2,3,4,5,6],res:=[6],keys:=[0,1,2,4,6,8],bk:=[.loc 4],dat:=[0,1,2,3,4,5,6] }),
 (181,{ fn:=f181,var:=[0,1,2],res:=[2],keys:=[0,2],bk:=[],dat:=[0,1,2] }),
 (182,{ fn:=f182,var:=[0,1,2,3,5,7,9,11,13],res:=[2,3],keys:=[0,2,3,4,5,7,9,11,13],bk:=[],dat:=[0,1,2,3,5,7,9,11,13] }),
 (183,{ fn:=f183,var:=[0,1,2,3,8,9,10,11,12,13,14,15,16,17,18],res:=[],keys:=[0,1,2,3,8,9,10,11,12,13,14,15,16,17,18,23,29,35,50,68,72,87,113],bk:=[],dat:=[0,1,2,3,8,9,10,11,12,13,14,15,16,17,18] })],
 [ (184,{ fn:=f184,var:=[0,1,2],res:=[2],keys:=[0,2],bk:=[],dat:=[0,1,2] }),
 (185,{ fn:=f185,var:=[0,1,2,3,4],res:=[4],keys:=[0,1,4],bk:=[],dat:=[0,1,2,3,4] }),
 (186,{ fn:=f186,var:=[0,1,2],res:=[2],keys:=[0,2,6],bk:=[.loc 11],dat:=[0,1,2] }),
 (187,{ fn:=f187,var:=[0,1,2,3,4],res:=[4],keys:=[0,1,4],bk:=[],dat:=[0,1,2,3,4] }),
 (188,{ fn:=f188,var:=[0,1,2,3,4,5,6,7,8],res:=[2],keys:=[0,2,3,5,6,8,9,10,11,12,20,25,26,27,28],bk:=[],dat:=[0,1,2,3,4,5,6,7,8] }),
 (189,{ fn:=f189,var:=[0,1,2],res:=[2],keys:=[0,2,4],bk:=[],dat:=[0,1,2] }),
 (190,{ fn:=f190,var:=[0,1,2,3],res:=[2],keys:=[0,2,3],bk:=[],dat:=[0,1,2,3] }),
 (191,{ fn:=f191,var:=[0,1,4,5,6,7,8,9,10,11,12,13,14,15,16],res:=[],keys:=[0,1,4,5,6,7,8,9,10,11,12,13,14,15,16,20,99,139,161],bk:=[],dat:=[0,1,4,5,6,7,8,9,10,11,12,13,14,15,16] })],
 [ (192,{ fn:=f192,var:=[0,1,2,3,4,5,6,7,8,9,10,11,12,13,14,15,16,17,18],res:=[10,11],keys:=[0,1,2,3,4,10,11,12,13,14,15,16,17,18,28,30,34,46,68,89,94],bk:=[.loc 12],dat:=[0,1,2,3,4,5,6,7,8,9,10,11,12,13,14,15,16,17,18],bK:=true }),
 (193,{ fn:=f193,var:=[0,1,2,3,4],res:=[4],keys:=[0,1,4],bk:=[],dat:=[0,1,2,3,4] }),
 (194,{ fn:=f194,var:=[0,1],res:=[],keys:=[],bk:=[],dat:=[0,1] }),
 (195,{ fn:=f195,var:=[0,1,2,3,4,5,6,7,8],res:=[2,3],keys:=[0,2,3,4,5,6,7,8,12,25,30],bk:=[],dat:=[0,1,2,3,4,5,6,7,8] }),
 (196,{ fn:=f196,var:=[0,1,2,3,4],res:=[4],keys:=[0,1,4],bk:=[],dat:=[0,1,2,3,4] }),
 (197,{ fn:=f197,var:=[0,1,2,3],res:=[2,3],keys:=[0,2,3,10],bk:=[],dat:=[0,1,2,3] }),
 (198,{ fn:=f198,var:=[0,1,2,3,4],res:=[4],keys:=[0,1,4],bk:=[],dat:=[0,1,2,3,4] }),
 (199,{ fn:=f199,var:=[0,1,2,3,4,5],res:=[4],keys:=[0,1,4,5,16,28],bk:=[],dat:=[0,1,2,3,4,5] })],
 [ (200,{ fn:=f200,var:=[0,1,2,3,4,5,6,7],res:=[],keys:=[0,1,2,6,7,12,30],bk:=[],dat:=[0,1,2,3,4,5,6,7] }),
 (201,{ fn:=f201,var:=[0,1,2,3,4,5,6,7,8,9,10],res:=[],keys:=[0,1,2,6,7,8,9,10,19,30],bk:=[],dat:=[0,1,2,3,4,5,6,7,8,9,10] }),
 (202,{ fn:=f202,var:=[0,1,2,3,4,5,6,7,8,9,10],res:=[],keys:=[0,1,2,6,7,8,9,10,15,33,43],bk:=[.loc 7],dat:=[0,1,2,3,4,5,6,7,8,9,10] }),
 (203,{ fn:=f203,var:=[0,1,2,3,4,5,6,7,8,9,10,11,12,51,54],res:=[6,7],keys:=[0,1,2,6,7,8,9,10,11,12,32,34,49,51,54],bk:=[.loc 9],dat:=[0,1,2,3,4,5,6,7,8,9,10,11,12,51,54] }),
 (204,{ fn:=f204,var:=[0,1,2,3,4,5,6,7],res:=[],keys:=[0,1,2,6,7,13],bk:=[],dat:=[0,1,2,3,4,5,6,7] }),
 (205,{ fn:=f205,var:=[0,1,2,6,7,8,9,10],res:=[6],keys:=[0,1,2,6,7,8,9,10,14,32,37,41,61,65,78,98,103,116],bk:=[],dat:=[0,1,2,6,7,8,9,10] }),
 (206,{ fn:=f206,var:=[0,1,2,3,4],res:=[4],keys:=[0,1,4],bk:=[],dat:=[0,1,2,3,4] }),
 (207,{ fn:=f207,var:=[0,1,2,3,4,5,6,7,8,9,10],res:=[8],keys:=[0,1,2,3,8,9,10,43,59,64],bk:=[],dat:=[0,1,2,3,4,5,6,7,8,9,10] })],
 [ (208,{ fn:=f208,var:=[0,1,2,3,8,9,10,11],res:=[8,9],keys:=[0,1,2,3,8,9,10,11,43,60,65,112,129,134],bk:=[],dat:=[0,1,2,3,8,9,10,11] }),
 (209,{ fn:=f209,var:=[0,1,2],res:=[2],keys:=[0,2,4,8],bk:=[],dat:=[0,1,2] }),
 (210,{ fn:=f210,var:=[0,1,2],res:=[2],keys:=[0,2,4,8,14],bk:=[],dat:=[0,1,2] }),
 (211,{ fn:=f211,var:=[0,1,2,3],res:=[],keys:=[0,1,8],bk:=[],dat:=[0,1,2,3] }),
 (212,{ fn:=f212,var:=[0,1],res:=[],keys:=[0],bk:=[],dat:=[0,1] }),
 (213,{ fn:=f213,var:=[0,1,2,3,4],res:=[4],keys:=[0,1,4,6,16],bk:=[],dat:=[0,1,2,3,4] }),
 (214,{ fn:=f214,var:=[0,1,2],res:=[2],keys:=[0,2],bk:=[],dat:=[0,1,2] }),
 (215,{ fn:=f215,var:=[0,1,2],res:=[2],keys:=[0,2,3],bk:=[],dat:=[0,1,2] })],
 [ (216,{ fn:=f216,var:=[0,1,2],res:=[2],keys:=[0,2],bk:=[],dat:=[0,1,2] }),
 (217,{ fn:=f217,var:=[0,1,2],res:=[2],keys:=[0,2],bk:=[],dat:=[0,1,2] }),
 (218,{ fn:=f218,var:=[0,1,2,3,4,5,6,7,8,9,10,11,12],res:=[2,3],keys:=[0,2,3,4,5,6,7,8,9,10,11,12,16,23,45,57,59,75,77,98],bk:=[.loc 9],dat:=[0,1,2,3,4,5,6,7,8,9,10,11,12] }),
 (219,{ fn:=f219,var:=[0,1,4,5,6,7,8,9,10,11,12,13,14,15,16,160,171,183],res:=[4],keys:=[0,1,4,5,6,7,8,9,10,11,12,13,14,15,16,26,33,43,51,64,98,108,124,139,143,156,160,171,175,176,177,181,183],bk:=[],dat:=[0,1,4,5,6,7,8,9,10,11,12,13,14,15,16,160,171,183] }),
 (220,{ fn:=f220,var:=[0,1,2,3,4,5,6,7,8,9],res:=[],keys:=[0,1,2,3,8,9,16,36,52],bk:=[],dat:=[0,1,2,3,4,5,6,7,8,9] }),
 (221,{ fn:=f221,var:=[0,1,2],res:=[2],keys:=[0,2],bk:=[],dat:=[0,1,2] }),
 (222,{ fn:=f222,var:=[0,1,2],res:=[2],keys:=[0,2],bk:=[],dat:=[0,1,2] }),
 (223,{ fn:=f223,var:=[0,1,2,3,4,5,6],res:=[6],keys:=[0,1,2,6],bk:=[],dat:=[0,1,2,3,4,5,6] })],
 [ (224,{ fn:=f224,var:=[0,1,2,3,4,5,6,7,8,9,10],res:=[10],keys:=[0,1,2,3,4,10],bk:=[],dat:=[0,1,2,3,4,5,6,7,8,9,10] }),
 (225,{ fn:=f225,var:=[0,1,2],res:=[2],keys:=[0,2],bk:=[],dat:=[0,1,2] }),
 (226,{ fn:=f226,var:=[0,1,2],res:=[2],keys:=[0,2],bk:=[],dat:=[0,1,2] }),
 (227,{ fn:=f227,var:=[0,1,2,3],res:=[],keys:=[0,1,15],bk:=[],dat:=[0,1,2,3] }),
 (228,{ fn:=f228,var:=[0,2,3,4,5,7,8,9,10,12,13,14],res:=[2],keys:=[0,2,3,4,5,6,7,8,9,10,11,12,13,14,28,40,48,58,59,61,62,73,100,117],bk:=[.loc 6,.loc 11,.esc 35 0,.esc 35 1,.esc 50 0,.esc 50 1],dat:=[0,2,3,4,5,7,8,9,10,12,13,14] }),
 (229,{ fn:=f229,var:=[0,1,2],res:=[2],keys:=[0,2,4],bk:=[],dat:=[0,1,2] }),
 (230,{ fn:=f230,var:=[0,1,2],res:=[2],keys:=[0,2,4],bk:=[],dat:=[0,1,2] }),
 (231,{ fn:=f231,var:=[0,1,2,3,10],res:=[2],keys:=[0,2,3,10],bk:=[],dat:=[0,1,2,3,10] })],
 [ (232,{ fn:=f232,var:=[0,1,2,3,4,5,6,7,8,9],res:=[8,9],keys:=[0,1,2,3,8,9,18],bk:=[],dat:=[0,1,2,3,4,5,6,7,8,9] }),
 (233,{ fn:=f233,var:=[0],res:=[],keys:=[],bk:=[],dat:=[0] }),
 (234,{ fn:=f234,var:=[0,1],res:=[],keys:=[0],bk:=[],dat:=[0,1] }),
 (235,{ fn:=f235,var:=[0,1],res:=[],keys:=[0],bk:=[],dat:=[0,1] }),
 (236,{ fn:=f236,var:=[0,1,2,3],res:=[],keys:=[0,1],bk:=[],dat:=[0,1,2,3] }),
 (237,{ fn:=f237,var:=[0,1,2,3,4],res:=[4],keys:=[0,1,4],bk:=[.loc 9,.esc 6 0,.esc 6 1],dat:=[0,1,2,3,4] }),
 (238,{ fn:=f238,var:=[0,1,2,3,4,5,6,7,8,9,10,11,12],res:=[2],keys:=[0,2,3,4,5,6,8,9,10,11,12,17,27,40,41,42,57,58,59,63,95],bk:=[.loc 13],dat:=[0,1,2,3,4,5,6,7,8,9,10,11,12] }),
 (239,{ fn:=f239,var:=[0,1],res:=[],keys:=[0,6],bk:=[],dat:=[0,1] })],
 [ (240,{ fn:=f240,var:=[0,1,2],res:=[],keys:=[0,2,16],bk:=[],dat:=[0,1,2] }),
 (241,{ fn:=f241,var:=[0,1],res:=[],keys:=[],bk:=[],dat:=[0,1] }),
 (242,{ fn:=f242,var:=[0,1,2],res:=[2],keys:=[0,2,3],bk:=[],dat:=[0,1,2] }),
 (243,{ fn:=f243,var:=[0,1,2,3,4,5,6,7,8,9,10],res:=[2],keys:=[0,2,3,4,5,6,7,8,9,10,20,21,33,49,57,73,92],bk:=[.loc 16],dat:=[0,1,2,3,4,5,6,7,8,9,10] }),
 (244,{ fn:=f244,var:=[0,1,2,3,4,10,11,12,13,14],res:=[],keys:=[0,1,2,3,4,10,11,12,13,14,16,21,34,47,59,66,79,85,189,204],bk:=[.loc 100,.loc 101,.loc 163,.loc 210,.loc 230],dat:=[0,1,2,3,4,10,11,12,13,14] }),
 (245,{ fn:=f245,var:=[],res:=[],keys:=[],bk:=[],dat:=[] }),
 (246,{ fn:=f246,var:=[0,1,2],res:=[],keys:=[],bk:=[],dat:=[0,1,2] }),
 (247,{ fn:=f247,var:=[],res:=[],keys:=[],bk:=[],dat:=[] })],
 [ (248,{ fn:=f248,var:=[0],res:=[],keys:=[],bk:=[],dat:=[0] }),
 (249,{ fn:=f249,var:=[0,2,3,4,5,6,7,8,9],res:=[],keys:=[0,2,3,4,5,6,7,8,9,20,41,52,57,65,68,71,80,83,87,107,115,123],bk:=[],dat:=[0,2,3,4,5,6,7,8,9] }),
 (250,{ fn:=f250,var:=[0],res:=[],keys:=[],bk:=[],dat:=[0] }),
 (251,{ fn:=f251,var:=[0,1],res:=[],keys:=[],bk:=[],dat:=[0,1] }),
 (252,{ fn:=f252,var:=[0,1,2,3,4],res:=[],keys:=[0,1,4,8,12,21,30],bk:=[],dat:=[0,1,2,3,4] }),
 (253,{ fn:=f253,var:=[0,1,2,3,4],res:=[4],keys:=[0,1,4,14,31],bk:=[],dat:=[0,1,2,3,4] }),
 (254,{ fn:=f254,var:=[0],res:=[],keys:=[],bk:=[],dat:=[0] }),
 (255,{ fn:=f255,var:=[],res:=[],keys:=[],bk:=[],dat:=[] })],
 [ (256,{ fn:=f256,var:=[0],res:=[],keys:=[],bk:=[],dat:=[0] }),
 (257,{ fn:=f257,var:=[],res:=[],keys:=[],bk:=[],dat:=[] }),
 (258,{ fn:=f258,var:=[0,1,2],res:=[],keys:=[],bk:=[],dat:=[0,1,2] }),
 (259,{ fn:=f259,var:=[0],res:=[],keys:=[],bk:=[],dat:=[0] }),
 (260,{ fn:=f260,var:=[0,1,2],res:=[],keys:=[],bk:=[],dat:=[0,1,2] })]]
set_option maxRecDepth 100000 in
theorem aGe:cN (cN (fun x=>prog.funcs[x.1]? =some x.2.fn∧(x.2.fn.name== "runtime.NumGoroutine")=false)) X:=⟨⟨⟨func3,by kernel_rfl⟩,⟨func4,by kernel_rfl⟩,⟨func5,by kernel_rfl⟩,⟨func6,by kernel_rfl⟩,⟨func7,by kernel_rfl⟩,trivial⟩,⟨⟨func8,by kernel_rfl⟩,⟨func9,by kernel_rfl⟩,⟨func10,by kernel_rfl⟩,⟨func11,by kernel_rfl⟩,⟨func12,by kernel_rfl⟩,⟨func13,by kernel_rfl⟩,⟨func14,by kernel_rfl⟩,⟨func15,by kernel_rfl⟩,trivial⟩,⟨⟨func16,by kernel_rfl⟩,⟨func17,by kernel_rfl⟩,⟨func18,by kernel_rfl⟩,⟨func19,by kernel_rfl⟩,⟨func20,by kernel_rfl⟩,⟨func21,by kernel_rfl⟩,⟨func22,by kernel_rfl⟩,⟨func23,by kernel_rfl⟩,trivial⟩,⟨⟨func24,by kernel_rfl⟩,⟨func25,by kernel_rfl⟩,⟨func26,by kernel_rfl⟩,⟨func27,by kernel_rfl⟩,⟨func28,by kernel_rfl⟩,⟨func29,by kernel_rfl⟩,⟨func30,by kernel_rfl⟩,⟨func31,by kernel_rfl⟩,trivial⟩,⟨⟨func32,by kernel_rfl⟩,⟨func33,by kernel_rfl⟩,⟨func34,by kernel_rfl⟩,⟨func35,by kernel_rfl⟩,⟨func36,by kernel_rfl⟩,⟨func37,by kernel_rfl⟩,⟨func38,by kernel_rfl⟩,⟨func39,by kernel_rfl⟩,trivial⟩,⟨⟨func40,by kernel_rfl⟩,⟨func41,by kernel_rfl⟩,⟨func42,by kernel_rfl⟩,⟨func43,by kernel_rfl⟩,⟨func44,by kernel_rfl⟩,⟨func45,by kernel_rfl⟩,⟨func46,by kernel_rfl⟩,⟨func47,by kernel_rfl⟩,trivial⟩,⟨⟨func48,by kernel_rfl⟩,⟨func49,by kernel_rfl⟩,⟨func50,by kernel_rfl⟩,⟨func51,by kernel_rfl⟩,⟨func52,by kernel_rfl⟩,⟨func53,by kernel_rfl⟩,⟨func54,by kernel_rfl⟩,⟨func55,by kernel_rfl⟩,trivial⟩,⟨⟨func56,by kernel_rfl⟩,⟨func57,by kernel_rfl⟩,⟨func58,by kernel_rfl⟩,⟨func59,by kernel_rfl⟩,⟨func60,by kernel_rfl⟩,⟨func61,by kernel_rfl⟩,⟨func62,by kernel_rfl⟩,⟨func63,by kernel_rfl⟩,trivial⟩,⟨⟨func64,by kernel_rfl⟩,⟨func65,by kernel_rfl⟩,⟨func66,by kernel_rfl⟩,⟨func67,by kernel_rfl⟩,⟨func68,by kernel_rfl⟩,⟨func69,by kernel_rfl⟩,⟨func70,by kernel_rfl⟩,⟨func71,by kernel_rfl⟩,trivial⟩,⟨⟨func72,by kernel_rfl⟩,⟨func73,by kernel_rfl⟩,⟨func74,by kernel_rfl⟩,⟨func75,by kernel_rfl⟩,⟨func76,by kernel_rfl⟩,⟨func77,by kernel_rfl⟩,⟨func78,by kernel_rfl⟩,⟨func79,by kernel_rfl⟩,trivial⟩,⟨⟨func80,by kernel_rfl⟩,⟨func81,by kernel_rfl⟩,⟨func82,by kernel_rfl⟩,⟨func83,by kernel_rfl⟩,⟨func84,by kernel_rfl⟩,⟨func85,by kernel_rfl⟩,⟨func86,by kernel_rfl⟩,⟨func87,by kernel_rfl⟩,trivial⟩,⟨⟨func88,by kernel_rfl⟩,⟨func89,by kernel_rfl⟩,⟨func90,by kernel_rfl⟩,⟨func91,by kernel_rfl⟩,⟨func92,by kernel_rfl⟩,⟨func93,by kernel_rfl⟩,⟨func94,by kernel_rfl⟩,⟨func95,by kernel_rfl⟩,trivial⟩,⟨⟨func96,by kernel_rfl⟩,⟨func97,by kernel_rfl⟩,⟨func98,by kernel_rfl⟩,⟨func99,by kernel_rfl⟩,⟨func100,by kernel_rfl⟩,⟨func101,by kernel_rfl⟩,⟨func102,by kernel_rfl⟩,⟨func103,by kernel_rfl⟩,trivial⟩,⟨⟨func104,by kernel_rfl⟩,⟨func105,by kernel_rfl⟩,⟨func106,by kernel_rfl⟩,⟨func107,by kernel_rfl⟩,⟨func108,by kernel_rfl⟩,⟨func109,by kernel_rfl⟩,⟨func110,by kernel_rfl⟩,⟨func111,by kernel_rfl⟩,trivial⟩,⟨⟨func112,by kernel_rfl⟩,⟨func113,by kernel_rfl⟩,⟨func114,by kernel_rfl⟩,⟨func115,by kernel_rfl⟩,⟨func116,by kernel_rfl⟩,⟨func117,by kernel_rfl⟩,⟨func118,by kernel_rfl⟩,⟨func119,by kernel_rfl⟩,trivial⟩,⟨⟨func120,by kernel_rfl⟩,⟨func121,by kernel_rfl⟩,⟨func122,by kernel_rfl⟩,⟨func123,by kernel_rfl⟩,⟨func124,by kernel_rfl⟩,⟨func125,by kernel_rfl⟩,⟨func126,by kernel_rfl⟩,⟨func127,by kernel_rfl⟩,trivial⟩,⟨⟨func128,by kernel_rfl⟩,⟨func129,by kernel_rfl⟩,⟨func130,by kernel_rfl⟩,⟨func131,by kernel_rfl⟩,⟨func132,by kernel_rfl⟩,⟨func133,by kernel_rfl⟩,⟨func134,by kernel_rfl⟩,⟨func135,by kernel_rfl⟩,trivial⟩,⟨⟨func136,by kernel_rfl⟩,⟨func137,by kernel_rfl⟩,⟨func138,by kernel_rfl⟩,⟨func139,by kernel_rfl⟩,⟨func140,by kernel_rfl⟩,⟨func141,by kernel_rfl⟩,⟨func142,by kernel_rfl⟩,⟨func143,by kernel_rfl⟩,trivial⟩,⟨⟨func144,by kernel_rfl⟩,⟨func145,by kernel_rfl⟩,⟨func146,by kernel_rfl⟩,⟨func147,by kernel_rfl⟩,⟨func148,by kernel_rfl⟩,⟨func149,by kernel_rfl⟩,⟨func150,by kernel_rfl⟩,⟨func151,by kernel_rfl⟩,trivial⟩,⟨⟨func152,by kernel_rfl⟩,⟨func153,by kernel_rfl⟩,⟨func154,by kernel_rfl⟩,⟨func155,by kernel_rfl⟩,⟨func156,by kernel_rfl⟩,⟨func157,by kernel_rfl⟩,⟨func158,by kernel_rfl⟩,⟨func159,by kernel_rfl⟩,trivial⟩,⟨⟨func160,by kernel_rfl⟩,⟨func161,by kernel_rfl⟩,⟨func162,by kernel_rfl⟩,⟨func163,by kernel_rfl⟩,⟨func164,by kernel_rfl⟩,⟨func165,by kernel_rfl⟩,⟨func166,by kernel_rfl⟩,⟨func167,by kernel_rfl⟩,trivial⟩,⟨⟨func168,by kernel_rfl⟩,⟨func169,by kernel_rfl⟩,⟨func170,by kernel_rfl⟩,⟨func171,by kernel_rfl⟩,⟨func172,by kernel_rfl⟩,⟨func173,by kernel_rfl⟩,⟨func174,by kernel_rfl⟩,⟨func175,by kernel_rfl⟩,trivial⟩,⟨⟨func176,by kernel_rfl⟩,⟨func177,by kernel_rfl⟩,⟨func178,by kernel_rfl⟩,⟨func179,by kernel_rfl⟩,⟨func180,by kernel_rfl⟩,⟨func181,by kernel_rfl⟩,⟨func182,by kernel_rfl⟩,⟨func183,by kernel_rfl⟩,trivial⟩,⟨⟨func184,by kernel_rfl⟩,⟨func185,by kernel_rfl⟩,⟨func186,by kernel_rfl⟩,⟨func187,by kernel_rfl⟩,⟨func188,by kernel_rfl⟩,⟨func189,by kernel_rfl⟩,⟨func190,by kernel_rfl⟩,⟨func191,by kernel_rfl⟩,trivial⟩,⟨⟨func192,by kernel_rfl⟩,⟨func193,by kernel_rfl⟩,⟨func194,by kernel_rfl⟩,⟨func195,by kernel_rfl⟩,⟨func196,by kernel_rfl⟩,⟨func197,by kernel_rfl⟩,⟨func198,by kernel_rfl⟩,⟨func199,by kernel_rfl⟩,trivial⟩,⟨⟨func200,by kernel_rfl⟩,⟨func201,by kernel_rfl⟩,⟨func202,by kernel_rfl⟩,⟨func203,by kernel_rfl⟩,⟨func204,by kernel_rfl⟩,⟨func205,by kernel_rfl⟩,⟨func206,by kernel_rfl⟩,⟨func207,by kernel_rfl⟩,trivial⟩,⟨⟨func208,by kernel_rfl⟩,⟨func209,by kernel_rfl⟩,⟨func210,by kernel_rfl⟩,⟨func211,by kernel_rfl⟩,⟨func212,by kernel_rfl⟩,⟨func213,by kernel_rfl⟩,⟨func214,by kernel_rfl⟩,⟨func215,by kernel_rfl⟩,trivial⟩,⟨⟨func216,by kernel_rfl⟩,⟨func217,by kernel_rfl⟩,⟨func218,by kernel_rfl⟩,⟨func219,by kernel_rfl⟩,⟨func220,by kernel_rfl⟩,⟨func221,by kernel_rfl⟩,⟨func222,by kernel_rfl⟩,⟨func223,by kernel_rfl⟩,trivial⟩,⟨⟨func224,by kernel_rfl⟩,⟨func225,by kernel_rfl⟩,⟨func226,by kernel_rfl⟩,⟨func227,by kernel_rfl⟩,⟨func228,by kernel_rfl⟩,⟨func229,by kernel_rfl⟩,⟨func230,by kernel_rfl⟩,⟨func231,by kernel_rfl⟩,trivial⟩,⟨⟨func232,by kernel_rfl⟩,⟨func233,by kernel_rfl⟩,⟨func234,by kernel_rfl⟩,⟨func235,by kernel_rfl⟩,⟨func236,by kernel_rfl⟩,⟨func237,by kernel_rfl⟩,⟨func238,by kernel_rfl⟩,⟨func239,by kernel_rfl⟩,trivial⟩,⟨⟨func240,by kernel_rfl⟩,⟨func241,by kernel_rfl⟩,⟨func242,by kernel_rfl⟩,⟨func243,by kernel_rfl⟩,⟨func244,by kernel_rfl⟩,⟨func245,by kernel_rfl⟩,⟨func246,by kernel_rfl⟩,⟨func247,by kernel_rfl⟩,trivial⟩,⟨⟨func248,by kernel_rfl⟩,⟨func249,by kernel_rfl⟩,⟨func250,by kernel_rfl⟩,⟨func251,by kernel_rfl⟩,⟨func252,by kernel_rfl⟩,⟨func253,by kernel_rfl⟩,⟨func254,by kernel_rfl⟩,⟨func255,by kernel_rfl⟩,trivial⟩,⟨⟨func256,by kernel_rfl⟩,⟨func257,by kernel_rfl⟩,⟨func258,by kernel_rfl⟩,⟨func259,by kernel_rfl⟩,⟨func260,by kernel_rfl⟩,trivial⟩,trivial⟩
noncomputable def E0 (A0:FuncId→fc):XE:={ T:=T,eqs:=EQ,A0:=A0,xE:=fun f=>ajS f X,fuel:=100000 }
theorem iR {A0:FuncId→fc} (h:∀g,fO prog g (A0 g)):XOK prog (E0 A0):=
 ⟨mix,fun t i hi=>cN.mem abj (t,i) (kW hi),fun t sh ht=>cN.mem abk (t,sh) (kW ht),h,fun f I hf=>as3 aGe hf⟩
open Go.Ve
noncomputable def TT:List (List (Nat×fc)):=[[],
 [],
 [(16,ve.sq.F)],
 [(29,ve.yd.F)],
 [(34,ve.sr.F),(35,ve.C35.F),(36,ve.oF.F),(37,ve.yh.F),(38,ve.auC.F),(39,ve.yj.F)],
 [(44,ve.C44.F),(47,ve.x6.F)],
 [(51,ve.x8.F)],
 [(56,ve.xZ.F),(61,ve.ye.F),(63,ve.yf.F)],
 [(65,ve.C65.F),(66,ve.C66.F),(67,ve.me.F),(68,ve.j6.F)],
 [(77,ve.x5.F),(78,ve.x7.F),(79,ve.si.F)],
 [],
 [(88,ve.C88.F)],
 [(97,ve.yc.F),(98,ve.C98.F),(101,ve.auR.F)],
 [(104,ve.rZ.F),(105,ve.sg.F)],
 [],
 [(122,ve.auO.F)],
 [(134,ve.afW.F),(135,ve.afQ.F)],
 [(136,ve.rY.F)],
 [(145,ve.yb.F)],
 [],
 [(163,ve.afV.F),(165,ve.oD.F),(167,ve.sj.F)],
 [],
 [],
 [(189,ve.afT.F)]]
theorem aGf:cN (cN (fun x=>fO prog x.1 x.2)) TT:=⟨trivial,trivial,⟨ve.G16,trivial⟩,⟨ve.G29,trivial⟩,⟨ve.G34,ve.G35,ve.G36,ve.G37,ve.aFC,ve.G39,trivial⟩,⟨ve.G44,ve.G47,trivial⟩,⟨ve.G51,trivial⟩,⟨ve.G56,ve.G61,ve.G63,trivial⟩,⟨ve.G65,ve.G66,ve.yg,ve.vm,trivial⟩,⟨ve.G77,ve.G78,ve.G79,trivial⟩,trivial,⟨ve.G88,trivial⟩,⟨ve.G97,ve.G98,ve.aFU,trivial⟩,⟨ve.afG,ve.afH,trivial⟩,trivial,⟨ve.aFQ,trivial⟩,⟨ve.avc,ve.auU,trivial⟩,⟨ve.afF,trivial⟩,⟨ve.akV,trivial⟩,trivial,⟨ve.au9,ve.abJ,ve.afJ,trivial⟩,trivial,trivial,⟨ve.au6,trivial⟩,trivial⟩
noncomputable def A1:FuncId→fc:=fun g=>match ajS g TT with
 |some F=>F
 |none=>A0 g
theorem iS (g:FuncId):fO prog g (A1 g):=by
 unfold A1
 split
 ·rename_i F h
  exact as3 aGf h
 ·exact aDY g
end Go.Proofs.YtmoineigflegeaaGreatDoor.vx
namespace Go.Proofs.YtmoineigflegeaaGreatDoor.vx
open Go Go.Vs Go.Proofs.Tryz
noncomputable def aGg:Fact:={ f:=9,args:=[.agg [.d (.nil),.d (.nil),.d (.int .i64 0)]],boxes:=[],r:={ v:=.one (.d (.int .i64 1)),boxes:=[],aB:=[] } }
set_option maxRecDepth 100000 in
theorem aGh:gq prog aGg:=iP (E:=E0 A1) (iR iS) (n:=30) (by kernel_rfl)
noncomputable def aGi:Fact:={ f:=9,args:=[.agg [.d (.nil),.d (.nil),.d (.int .i64 1)]],boxes:=[],r:={ v:=.one (.d (.int .i64 0)),boxes:=[],aB:=[] } }
set_option maxRecDepth 100000 in
theorem aGj:gq prog aGi:=iP (E:=E0 A1) (iR iS) (n:=30) (by kernel_rfl)
noncomputable def aGk:Fact:={ f:=9,args:=[.agg [.d (.nil),.d (.nil),.d (.int .i64 1073741824)]],boxes:=[],r:={ v:=.one (.d (.int .i64 0)),boxes:=[],aB:=[] } }
set_option maxRecDepth 100000 in
theorem aGl:gq prog aGk:=iP (E:=E0 A1) (iR iS) (n:=30) (by kernel_rfl)
noncomputable def aGm:Fact:={ f:=9,args:=[.agg [.d (.nil),.d (.nil),.d (.int .i64 1073741825)]],boxes:=[],r:={ v:=.one (.d (.int .i64 1)),boxes:=[],aB:=[] } }
set_option maxRecDepth 100000 in
theorem aGn:gq prog aGm:=iP (E:=E0 A1) (iR iS) (n:=30) (by kernel_rfl)
end Go.Proofs.YtmoineigflegeaaGreatDoor.vx
namespace Go.Proofs.YtmoineigflegeaaGreatDoor.vd
open Go Go.Vs Go.Ve Go.Fp Go.Fn Go.Proofs.Tryz
def S9:aF:={ args:=[.row (.pair (.sl (.pair (.int .i64) (.sl (.pair .bool (.pair .str .str))))) (.pair (.sl (.pair (.int .i64) (.pair (.int .i64) (.pair (.int .i64) (.pair (.pair (.int .i64) (.int .i64)) (.pair (.int .i64) (.pair (.sl (.pair (.int .i64) (.pair .str (.int .i64)))) (.pair .str (.pair (.int .i64) .bool))))))))) (.int .i64)))],boxes:=[],res:=[.one (.i .i64)],bf:=[],aB:=[] }
noncomputable def C9:aV:=S9.az (by kernel_rfl) (fun x=>jA x)
set_option maxRecDepth 100000 in
theorem G9:bq prog (9,C9):=by
 refine as7 fun x y h=>?_
 rcases ajT (h:xH _ _=some y)with h|h
 ·obtain⟨rfl,rfl⟩:=aft h
  exact vx.aGh
 rcases ajT h with h|h
 ·obtain⟨rfl,rfl⟩:=aft h
  exact vx.aGj
 rcases ajT h with h|h
 ·obtain⟨rfl,rfl⟩:=aft h
  exact vx.aGl
 ·obtain⟨rfl,rfl⟩:=aft h
  exact vx.aGn
end Go.Proofs.YtmoineigflegeaaGreatDoor.vd
namespace Go.Proofs.YtmoineigflegeaaGreatDoor.vx
open Go Go.Vs Go.Proofs.Tryz
noncomputable def avf:Fact:={ f:=6,args:=[.one (.d (.int .i64 3)),.one (.d (.str [116,101,120,116,10,34,79,110,101,46,32,84,119,111,46,34]))],boxes:=[],r:={ v:=.aJ [(true,[.d (.int .i64 3),.d (.sl 3 [[.bool false,.str [],.str [116,101,120,116,10,34]],[.bool true,.str [49],.str [79,110,101,46,32,84,119,111,46]],[.bool false,.str [],.str [34]]])]),(false,[.d (.int .i64 0)]),(false,[.d (.int .i64 0)])],boxes:=[],aB:=[] } }
set_option maxRecDepth 100000 in
theorem aGo:gq prog avf:=iP (E:=E0 A1) (iR iS) (n:=30) (by kernel_rfl)
noncomputable def avg:Fact:={ f:=19,args:=[],boxes:=[],r:={ v:=.one (.own 3 [[.bool true,.sl 34 [[.int .u8 0,.int .u8 0,.int .u8 0,.int .u8 0,.int .u8 2,.int .u8 64,.int .u8 0,.int .u8 0,.int .u8 0,.int .u8 0,.int .u8 0,.int .u8 0,.int .u8 0,.int .u8 0,.int .u8 0,.int .u8 0,.int .u8 0,.int .u8 0,.int .u8 0,.int .u8 0,.int .u8 0,.int .u8 0,.int .u8 0,.int .u8 0,.int .u8 0,.int .u8 0,.int .u8 0,.int .u8 0,.int .u8 0,.int .u8 0,.int .u8 0,.int .u8 0,.int .i64 1,.bool false]],.sl 34 [[.int .u8 0,.int .u8 0,.int .u8 0,.int .u8 0,.int .u8 1,.int .u8 0,.int .u8 0,.int .u8 0,.int .u8 0,.int .u8 0,.int .u8 0,.int .u8 0,.int .u8 0,.int .u8 0,.int .u8 0,.int .u8 0,.int .u8 0,.int .u8 0,.int .u8 0,.int .u8 0,.int .u8 0,.int .u8 0,.int .u8 0,.int .u8 0,.int .u8 0,.int .u8 0,.int .u8 0,.int .u8 0,.int .u8 0,.int .u8 0,.int .u8 0,.int .u8 0,.int .i64 1,.bool false]]]]),boxes:=[],aB:=[] } }
set_option maxRecDepth 100000 in
theorem aGp:gq prog avg:=iP (E:=E0 A1) (iR iS) (n:=30) (by kernel_rfl)
noncomputable def amC:Fact:={ f:=13,args:=[.agg [.d (.int .i64 3),.d (.sl 3 [[.bool false,.str [],.str [116,101,120,116,10,34]],[.bool true,.str [49],.str [79,110,101,46,32,84,119,111,46]],[.bool false,.str [],.str [34]]])]],boxes:=[],r:={ v:=.one (.d (.int .i64 0)),boxes:=[],aB:=[] } }
set_option maxRecDepth 100000 in
theorem avh:gq prog amC:=iP (E:=E0 A1) (iR iS) (n:=30) (by kernel_rfl)
noncomputable def amD:Fact:={ f:=15,args:=[.agg [.d (.int .i64 3),.d (.sl 3 [[.bool false,.str [],.str [116,101,120,116,10,34]],[.bool true,.str [49],.str [79,110,101,46,32,84,119,111,46]],[.bool false,.str [],.str [34]]])]],boxes:=[],r:={ v:=.one (.own 4295098370 [[.int .i64 1,.sl 3 [[.int .i64 1,.str [79,110,101,46,32,84,119,111,46],.int .i64 0]]]]),boxes:=[],aB:=[] } }
set_option maxRecDepth 100000 in
theorem avi:gq prog amD:=iP (E:=E0 A1) (iR iS) (n:=30) (by kernel_rfl)
noncomputable def avj:Fact:={ f:=17,args:=[.one (.d (.sl 3 [[.bool true,.sl 34 [[.int .u8 0,.int .u8 0,.int .u8 0,.int .u8 0,.int .u8 2,.int .u8 64,.int .u8 0,.int .u8 0,.int .u8 0,.int .u8 0,.int .u8 0,.int .u8 0,.int .u8 0,.int .u8 0,.int .u8 0,.int .u8 0,.int .u8 0,.int .u8 0,.int .u8 0,.int .u8 0,.int .u8 0,.int .u8 0,.int .u8 0,.int .u8 0,.int .u8 0,.int .u8 0,.int .u8 0,.int .u8 0,.int .u8 0,.int .u8 0,.int .u8 0,.int .u8 0,.int .i64 1,.bool false]],.sl 34 [[.int .u8 0,.int .u8 0,.int .u8 0,.int .u8 0,.int .u8 1,.int .u8 0,.int .u8 0,.int .u8 0,.int .u8 0,.int .u8 0,.int .u8 0,.int .u8 0,.int .u8 0,.int .u8 0,.int .u8 0,.int .u8 0,.int .u8 0,.int .u8 0,.int .u8 0,.int .u8 0,.int .u8 0,.int .u8 0,.int .u8 0,.int .u8 0,.int .u8 0,.int .u8 0,.int .u8 0,.int .u8 0,.int .u8 0,.int .u8 0,.int .u8 0,.int .u8 0,.int .i64 1,.bool false]]]])),.one (.d (.sl 3 [[.int .i64 1,.str [79,110,101,46,32,84,119,111,46],.int .i64 0]]))],boxes:=[],r:={ v:=.one (.own 2 [[.int .i64 0,.int .i64 4],[.int .i64 5,.int .i64 9]]),boxes:=[],aB:=[] } }
set_option maxRecDepth 100000 in
theorem aGq:gq prog avj:=iP (E:=E0 A1) (iR iS) (n:=30) (by kernel_rfl)
noncomputable def avk:Fact:={ f:=7,args:=[.one (.d (.sl 2 [[.int .i64 3,.sl 3 [[.bool false,.str [],.str [116,101,120,116,10,34]],[.bool true,.str [49],.str [79,110,101,46,32,84,119,111,46]],[.bool false,.str [],.str [34]]]]])),.one (.d (.sl 3 [[.bool true,.sl 34 [[.int .u8 0,.int .u8 0,.int .u8 0,.int .u8 0,.int .u8 2,.int .u8 64,.int .u8 0,.int .u8 0,.int .u8 0,.int .u8 0,.int .u8 0,.int .u8 0,.int .u8 0,.int .u8 0,.int .u8 0,.int .u8 0,.int .u8 0,.int .u8 0,.int .u8 0,.int .u8 0,.int .u8 0,.int .u8 0,.int .u8 0,.int .u8 0,.int .u8 0,.int .u8 0,.int .u8 0,.int .u8 0,.int .u8 0,.int .u8 0,.int .u8 0,.int .u8 0,.int .i64 1,.bool false]],.sl 34 [[.int .u8 0,.int .u8 0,.int .u8 0,.int .u8 0,.int .u8 1,.int .u8 0,.int .u8 0,.int .u8 0,.int .u8 0,.int .u8 0,.int .u8 0,.int .u8 0,.int .u8 0,.int .u8 0,.int .u8 0,.int .u8 0,.int .u8 0,.int .u8 0,.int .u8 0,.int .u8 0,.int .u8 0,.int .u8 0,.int .u8 0,.int .u8 0,.int .u8 0,.int .u8 0,.int .u8 0,.int .u8 0,.int .u8 0,.int .u8 0,.int .u8 0,.int .u8 0,.int .i64 1,.bool false]]]]))],boxes:=[],r:={ v:=.aJ [(true,[.d (.sl 2 [[.int .i64 3,.sl 3 [[.bool false,.str [],.str [116,101,120,116,10,34]],[.bool true,.str [49],.str [79,110,101,46,32,84,119,111,46]],[.bool false,.str [],.str [34]]]]]),.d (.sl 10 [[.int .i64 1,.int .i64 0,.int .i64 1,.int .i64 0,.int .i64 4,.int .i64 0,.nil,.str [],.int .i64 0,.bool false],[.int .i64 2,.int .i64 0,.int .i64 1,.int .i64 5,.int .i64 9,.int .i64 0,.nil,.str [],.int .i64 0,.bool false]]),.d (.int .i64 3)]),(false,[.d (.int .i64 0)])],boxes:=[],aB:=[] } }
set_option maxRecDepth 100000 in
theorem aGr:gq prog avk:=iP (E:=E0 (memo [amC,amD,avj] A1)) (iR (rS iS (cN.mem ⟨avh,avi,aGq,trivial⟩))) (n:=30) (by kernel_rfl)
noncomputable def yl:Fact:={ f:=18,args:=[.agg [.d (.sl 2 [[.int .i64 3,.sl 3 [[.bool false,.str [],.str [116,101,120,116,10,34]],[.bool true,.str [49],.str [79,110,101,46,32,84,119,111,46]],[.bool false,.str [],.str [34]]]]]),.d (.sl 10 [[.int .i64 1,.int .i64 0,.int .i64 1,.int .i64 0,.int .i64 4,.int .i64 0,.nil,.str [],.int .i64 0,.bool false],[.int .i64 2,.int .i64 0,.int .i64 1,.int .i64 5,.int .i64 9,.int .i64 0,.nil,.str [],.int .i64 0,.bool false]]),.d (.int .i64 3)]],boxes:=[],r:={ v:=.aJ [(false,[.ptr (.inb 0) 0]),(false,[.d (.int .i64 0)])],boxes:=[[.d (.sl 2 [[.int .i64 3,.sl 3 [[.bool false,.str [],.str [116,101,120,116,10,34]],[.bool true,.str [49],.str [79,110,101,46,32,84,119,111,46]],[.bool false,.str [],.str [34]]]]]),.d (.sl 10 [[.int .i64 1,.int .i64 0,.int .i64 1,.int .i64 0,.int .i64 4,.int .i64 0,.nil,.str [],.int .i64 0,.bool false],[.int .i64 2,.int .i64 0,.int .i64 1,.int .i64 5,.int .i64 9,.int .i64 0,.nil,.str [],.int .i64 0,.bool false]]),.d (.int .i64 3),.own 4295294978 [[.int .i64 0,.int .i64 1,.sl 3 [[.int .i64 1,.str [79,110,101,46,32,84,119,111,46],.int .i64 0]]]]]],aB:=[] } }
set_option maxRecDepth 100000 in
theorem ab9:gq prog yl:=iP (E:=E0 (memo [amC,amD] A1)) (iR (rS iS (cN.mem ⟨avh,avi,trivial⟩))) (n:=30) (by kernel_rfl)
noncomputable def avl:Fact:={ f:=21,args:=[.agg [.d (.sl 2 [[.int .i64 3,.sl 3 [[.bool false,.str [],.str [116,101,120,116,10,34]],[.bool true,.str [49],.str [79,110,101,46,32,84,119,111,46]],[.bool false,.str [],.str [34]]]]]),.d (.sl 10 [[.int .i64 1,.int .i64 0,.int .i64 1,.int .i64 0,.int .i64 4,.int .i64 0,.nil,.str [],.int .i64 0,.bool false],[.int .i64 2,.int .i64 0,.int .i64 1,.int .i64 5,.int .i64 9,.int .i64 0,.nil,.str [],.int .i64 0,.bool false]]),.d (.int .i64 3)],.one (.d (.int .i64 1))],boxes:=[],r:={ v:=.one (.d (.str [79,110,101,46])),boxes:=[],aB:=[] } }
set_option maxRecDepth 100000 in
theorem aGs:gq prog avl:=iP (E:=E0 (memo [yl] A1)) (iR (rS iS (cN.mem ⟨ab9,trivial⟩))) (n:=30) (by kernel_rfl)
noncomputable def avm:Fact:={ f:=21,args:=[.agg [.d (.sl 2 [[.int .i64 3,.sl 3 [[.bool false,.str [],.str [116,101,120,116,10,34]],[.bool true,.str [49],.str [79,110,101,46,32,84,119,111,46]],[.bool false,.str [],.str [34]]]]]),.d (.sl 10 [[.int .i64 1,.int .i64 0,.int .i64 1,.int .i64 0,.int .i64 4,.int .i64 0,.nil,.str [],.int .i64 0,.bool false],[.int .i64 2,.int .i64 0,.int .i64 1,.int .i64 5,.int .i64 9,.int .i64 0,.nil,.str [],.int .i64 0,.bool false]]),.d (.int .i64 3)],.one (.d (.int .i64 2))],boxes:=[],r:={ v:=.one (.d (.str [84,119,111,46])),boxes:=[],aB:=[] } }
set_option maxRecDepth 100000 in
theorem aGt:gq prog avm:=iP (E:=E0 (memo [yl] A1)) (iR (rS iS (cN.mem ⟨ab9,trivial⟩))) (n:=30) (by kernel_rfl)
noncomputable def avn:Fact:={ f:=22,args:=[.agg [.d (.sl 2 [[.int .i64 3,.sl 3 [[.bool false,.str [],.str [116,101,120,116,10,34]],[.bool true,.str [49],.str [79,110,101,46,32,84,119,111,46]],[.bool false,.str [],.str [34]]]]]),.d (.sl 10 [[.int .i64 1,.int .i64 0,.int .i64 1,.int .i64 0,.int .i64 4,.int .i64 0,.nil,.str [],.int .i64 0,.bool false],[.int .i64 2,.int .i64 0,.int .i64 1,.int .i64 5,.int .i64 9,.int .i64 0,.nil,.str [],.int .i64 0,.bool false]]),.d (.int .i64 3)],.one (.d (.int .i64 2))],boxes:=[],r:={ v:=.one (.d (.int .i64 1)),boxes:=[],aB:=[] } }
set_option maxRecDepth 100000 in
theorem aGu:gq prog avn:=iP (E:=E0 (memo [yl] A1)) (iR (rS iS (cN.mem ⟨ab9,trivial⟩))) (n:=30) (by kernel_rfl)
noncomputable def avo:Fact:={ f:=22,args:=[.agg [.d (.sl 2 [[.int .i64 3,.sl 3 [[.bool false,.str [],.str [116,101,120,116,10,34]],[.bool true,.str [49],.str [79,110,101,46,32,84,119,111,46]],[.bool false,.str [],.str [34]]]]]),.d (.sl 10 [[.int .i64 1,.int .i64 0,.int .i64 1,.int .i64 0,.int .i64 4,.int .i64 0,.nil,.str [],.int .i64 0,.bool false],[.int .i64 2,.int .i64 0,.int .i64 1,.int .i64 5,.int .i64 9,.int .i64 0,.nil,.str [],.int .i64 0,.bool false]]),.d (.int .i64 3)],.one (.d (.int .i64 3))],boxes:=[],r:={ v:=.one (.d (.int .i64 (-1))),boxes:=[],aB:=[] } }
set_option maxRecDepth 100000 in
theorem aGv:gq prog avo:=iP (E:=E0 (memo [yl] A1)) (iR (rS iS (cN.mem ⟨ab9,trivial⟩))) (n:=30) (by kernel_rfl)
noncomputable def avp:Fact:={ f:=20,args:=[.agg [.d (.sl 2 [[.int .i64 3,.sl 3 [[.bool false,.str [],.str [116,101,120,116,10,34]],[.bool true,.str [49],.str [79,110,101,46,32,84,119,111,46]],[.bool false,.str [],.str [34]]]]]),.d (.sl 10 [[.int .i64 1,.int .i64 0,.int .i64 1,.int .i64 0,.int .i64 4,.int .i64 0,.nil,.str [],.int .i64 0,.bool false],[.int .i64 2,.int .i64 0,.int .i64 1,.int .i64 5,.int .i64 9,.int .i64 0,.nil,.str [],.int .i64 0,.bool false]]),.d (.int .i64 3)],.one (.d (.int .i64 2))],boxes:=[],r:={ v:=.aJ [(false,[.d (.str [79,110,101,46])]),(false,[.d (.str [])])],boxes:=[],aB:=[] } }
set_option maxRecDepth 100000 in
theorem aGw:gq prog avp:=iP (E:=E0 (memo [yl] A1)) (iR (rS iS (cN.mem ⟨ab9,trivial⟩))) (n:=30) (by kernel_rfl)
noncomputable def aGx:Fact:={ f:=10,args:=[],boxes:=[],r:={ v:=.one (.d (.bool true)),boxes:=[],aB:=[] } }
set_option maxRecDepth 100000 in
theorem aGy:gq prog aGx:=iP (E:=E0 (memo [avf,avg,avk,avl,avm,avn,avo,avp] A1)) (iR (rS iS (cN.mem ⟨aGo,aGp,aGr,aGs,aGt,aGu,aGv,aGw,trivial⟩))) (n:=30) (by kernel_rfl)
end Go.Proofs.YtmoineigflegeaaGreatDoor.vx
namespace Go.Proofs.YtmoineigflegeaaGreatDoor.vd
open Go Go.Vs Go.Ve Go.Fp Go.Proofs.Tryz
def S10:aF:={ args:=[],boxes:=[],res:=[.one .b],bf:=[],aB:=[] }
noncomputable def C10:aV:=S10.az (by kernel_rfl) (fun _=>aa1)
set_option maxRecDepth 100000 in
theorem G10:bq prog (10,C10):=by
 refine as7 fun x y h=>?_
 cases h
 exact vx.aGy
noncomputable def F3:aZ:={ cfg:={ N:=77,T:=T,R:=R,az:=fun _ f=>bA f [(5,C5),(6,C6),(7,C7),(8,C8),(9,C9),(10,C10)],var:=[0,1,2,3,4,5,6,7,8,9,10,11,12,13],res:=[4],eqs:=EQ,dat:=[2,3,4,5,6,7,8,9,10,11,12,13],bK:=true },keys:=[0,1,4,5,6,7,9,10,11,12,13,19,37,55],aQ:=[.loc 7,.loc 10,.loc 13] }
noncomputable def S3:aF:={ args:=[.one (.i .i64),.one (.i .i64)],boxes:=[],res:=[.one .b],bf:=[],aB:=[] }
noncomputable def L3:Nat→Option aX:=fun n=>match n with
 |0=>some { head:={ live:=[0,1,5,6],aO:=[],vs:=[.slot 5 .s,.slot 6 (.i .i64)] },bT:=[(.exit 0,{ live:=[0,1,5],aO:=[],vs:=[.slot 5 .s] })] }
 |_=>none
set_option maxRecDepth 100000 in
theorem aGB:∀x,bF F3 L3 f3 S3 x=(fun x=>xX x.1 x.2) x:=by
 intro x
 kernel_rfl
theorem fn3:bh prog 3 (S3.F (fun x=>xX x.1 x.2)):=bG (F:=F3) (tbl:=L3) func3 (by kernel_rfl) mix (bH (l:=[(5,C5),(6,C6),(7,C7),(8,C8),(9,C9),(10,C10)]) (bE rfl rfl) rfl (List.forall_mem_cons.2 ⟨G5,List.forall_mem_cons.2 ⟨G6,List.forall_mem_cons.2 ⟨G7,List.forall_mem_cons.2 ⟨G8,List.forall_mem_cons.2 ⟨G9,List.forall_mem_cons.2 ⟨G10,by simp⟩⟩⟩⟩⟩⟩)) (by kernel_rfl) (by kernel_rfl) (by decide) (fun _=>by kernel_rfl) aGB
noncomputable def C3:aV:=S3.az (by kernel_rfl) (fun x=>xX x.1 x.2)
theorem G3:bq prog (3,C3):=bI func3 (by kernel_rfl) (by kernel_rfl) fn3
end Go.Proofs.YtmoineigflegeaaGreatDoor.vd
namespace Go.Proofs.YtmoineigflegeaaGreatDoor.projectMany
open Go Go.ChangeShapes Go.WideShapes Go.ChangeAt Go.RowKit Go.Vs Go.Ve Go.Fp Go.Proofs.YtmoineigflegeaaGreatDoor.vd
theorem own:ownKnob Tryz.prog.godebug=none:=by kernel_rfl
def B (H:Type):pe H where
 one:=Rows.uptoBulk
 all:=Rows.uptoBulkAll
 str:=fun _=>by simp only[Rows.uptoBulk]
 slice:=fun _ _=>by simp only[Rows.uptoBulk]
 agg:=fun _=>by simp only[Rows.uptoBulk]
 pos:=fun d=>by
  cases d with
  |lit l=>cases l<;>simp only[Rows.uptoBulk]<;>omega
  |_=>simp only[Rows.uptoBulk]<;>omega
 nil:=by simp only[Rows.uptoBulkAll]
 cons:=fun _ _=>by simp only[Rows.uptoBulkAll]
def avN:List Int:=[1,10,100,1000,10000,100000,1000000,10000000,100000000,1000000000,10000000000,100000000000,1000000000000,10000000000000,100000000000000,1000000000000000,10000000000000000,100000000000000000,1000000000000000000,10000000000000000000]
theorem aHn:oM Tryz.prog=[(1,avN.map fun z=>.int .u64 z)]:=by kernel_rfl
theorem aHo {W:World} (h:laidMetH Tryz.prog Rows.projectManyUptoRow.laid W):∀g l,(g,l)∈oM Tryz.prog→g<W.heap.size∧mq W g l:=by
 rw[MakeChecks.laidMetH_plain _ _ _ (by kernel_rfl)]at h
 have h1:mq W 1 (avN.map fun z=>.int .u64 z):=aCk (n:= "internal/strconv.uint64pow10") (t:=289) (e:=253) (N:=20) h (List.mem_of_getElem? (i:=2) (by kernel_rfl)) (by kernel_rfl) (by kernel_rfl) (by kernel_rfl) (by kernel_rfl) (by kernel_rfl) (by kernel_rfl) (by kernel_rfl)
 intro g l hm
 rw[aHn,List.mem_singleton]at hm
 cases hm
 exact⟨aCp h1 (v:=.int .u64 1) rfl,h1⟩
set_option maxRecDepth 100000 in
theorem contract (H:Type) (enc:TypeId×Value→H) (W:World) (base:Nat) (args:Array Value) (ds gs:List (DataW H)) (before:List MemPlace)
  (hval:∀(j:Nat) t v,Tryz.f3.params[j]? =some t→args[j]? =some v→Value.okWide Tryz.prog W .any base t v)
  (hW:DataW.Whole enc Tryz.prog Tryz.f3.params.toList Rows.projectManySpec.vars false W args.toList ds gs before) (hk:Rows.uptoSmall H (ds++gs)=true) (hL:laidMetH Tryz.prog Rows.projectManyUptoRow.laid W):
  Calls Tryz.prog 3 args W fun e W'=>∃v,e= .returned v∧Rows.projectManySpec.post enc Tryz.prog Tryz.f3 false true false false W args v W':=
 aCe (cfg:=F3.cfg.c) (l:=S3.args) (n:=20) (m:=1048576) (ts:=Tryz.f3.params.toList) (sp:=Rows.projectManySpec) (by kernel_rfl) fn3 (bE rfl rfl) rfl rfl (tb:=4) (by kernel_rfl) (by kernel_rfl)
  (by kernel_rfl) (by
    intro t ht
    exact List.all_eq_true.1 (by kernel_rfl:Tryz.f3.params.toList.all (fun t=>lP F3.cfg.c 20 t)=true) t ht) (by kernel_rfl)
  (by
    intro t ht
    have:=List.all_eq_true.1 (by kernel_rfl:Tryz.f3.params.toList.all (fun t=>Tryz.prog.readableRec t&&Nat.blt t Tryz.prog.types.size)=true) t ht
    rw[Bool.and_eq_true,Nat.blt_eq]at this
    exact this) (B H) (Nat.le_trans (ast (B H) ds gs) (of_decide_eq_true hk))
  (fun x hw hb=>⟨x,rfl,aHm hw.1 hw.2.1⟩)
  (fun ds h=>by
    match ds,h with
    | [d1,d2],_=>rfl)
  (aHo hL) hval hW
def aHp:DataW Unit→List Value
 | .lit l=>[l.value]
 | .agg ps=>ps.flatMap fun d=>match d with
   | .lit l=>[l.value]
   |_=>[]
 |_=>[]
def acf:DataW Unit→List Value
 | .agg ps=>ps.flatMap aHp
 |_=>[]
def setCells (cs:List Value):Obj→Obj
 | .cells _ t frozen=>.cells cs.toArray t frozen
 |o=>o
noncomputable def amS (os:Os):World:={ World.holding Tryz.prog os ⟨#[], #[],[]⟩with heap:=((((((World.holding Tryz.prog os ⟨#[], #[],[]⟩).heap.modify 4 (setCells (acf Rows.laid_math_bits_deBruijn32tab))).modify 5 (setCells (acf Rows.laid_math_bits_deBruijn64tab))).modify 1 (setCells (acf Rows.laid_internal_strconv_uint64pow10))).modify 3 (setCells (acf Rows.laid_unicode_utf8_acceptRanges))).modify 2 (setCells (acf Rows.laid_unicode_utf8_first))) }
theorem aHq (os:Os):laidMet Tryz.prog Rows.projectManyUptoRow.laid ((amS os).forCall (fun _ _=>0) ⟨#[], #[.int .i64 0,.int .i64 0],[]⟩).memory:=
 laidMet_of_run' 300 (by kernel_rfl) (by kernel_rfl)
theorem reads (os:Os) {H:Type} (enc:TypeId×Value→H):∃places,DataW.whole enc Tryz.prog ((amS os).forCall (fun _ _=>0) ⟨#[], #[.int .i64 0,.int .i64 0],[]⟩).memory Tryz.f3.params.toList Rows.projectManySpec.vars false (#[.int .i64 0,.int .i64 0]:Array Value).toList 8=some ([.lit (.int .i64 0),.lit (.int .i64 0)],[],places):=
 ⟨[],by kernel_rfl⟩
set_option maxRecDepth 100000 in
theorem lifted (os:Os) (started:os.Started) (H:Type) (enc:TypeId×Value→H) (F:Stop.Interp):
  ReturnsInHanded {} Tryz.checked os 3 .any ((Rows.OpenSpec.upto Rows.projectManySpec).preRow enc Tryz.prog Tryz.f3 Rows.projectManyUptoRow.domain false Rows.projectManyUptoRow.laid) (((Rows.OpenSpec.upto Rows.projectManySpec).at F).post enc Tryz.prog Tryz.f3 false true false false):=by
 obtain⟨places,hx⟩:=reads os enc
 refine returnsInHanded_of_row (C:=Tryz.checked) (s:=Rows.OpenSpec.upto Rows.projectManySpec) own started (by kernel_rfl) Tryz.func3
  (witness_row_at (enc:=enc) (C:=Tryz.checked) false (amS os) #[.int .i64 0,.int .i64 0] rfl (by kernel_rfl) (by kernel_rfl) (by kernel_rfl)
    (OpenSpec.preRow_of_cond 8 hx (by kernel_rfl) (fun k hk=>by cases hk;kernel_rfl) (by kernel_rfl) (aHq os))) ?_
 intro W base args ds gs before hval hW _ aHr _ hL _ _
 exact contract H enc W base args ds gs before hval hW (aHr _ rfl) hL
theorem over:Rows.projectManyUptoRow.holds Tryz.pinned (Rows.OpenSpec.upto Rows.projectManySpec):=
 OpenClaim.holds_of_cond 3 Tryz.f3 rfl rfl rfl rfl rfl rfl rfl ⟨rfl,rfl,rfl,rfl,rfl⟩ rfl rfl rfl rfl rfl h1 Tryz.func3 closed h2 h3
  (fun os started H enc _ F=>by rw[OpenClaim.pre_eq_preRow];exact lifted os started H enc F)
theorem plain (f:FuncId) (fn:Func) (hf:Tryz.pinned.checked.prog.funcNamed "bitext/bitextlaw26.ProjectMany" =some f) (hfn:Tryz.pinned.checked.prog.funcs[f]? =some fn):
  true=Tryz.pinned.checked.prog.looks []∧∀(j:Nat) t,fn.params[j]? =some t→Tryz.pinned.checked.prog.wantsStandIn t=false:=by
 obtain rfl:f=3:=Option.some.inj ((show Tryz.prog.funcNamed "bitext/bitextlaw26.ProjectMany" =some 3 from h1).symm.trans hf)|>.symm
 obtain rfl:fn=Tryz.f3:=(Option.some.inj (Tryz.func3.symm.trans hfn)).symm
 refine⟨by kernel_rfl,fun j t ht=>?_⟩
 have hm:t∈Tryz.f3.params.toList:=Array.mem_toList_iff.2 (Array.mem_of_getElem? ht)
 have:=List.all_eq_true.1 (by kernel_rfl:Tryz.f3.params.toList.all (fun t=> !Tryz.prog.wantsStandIn t)=true) t hm
 show Tryz.prog.wantsStandIn t=false
 simpa using this
theorem proved:Rows.ProjectManyUptoCardSaid:=
 Claim7.holds_tied_plain_at .later [] _ _ _ _ over (fun _ h=>by cases h) (by kernel_rfl) (fun _ h=>by cases h) projectManyUpto_row_tie rfl ⟨rfl,rfl⟩ (by kernel_rfl) rfl plain (by kernel_rfl)
end Go.Proofs.YtmoineigflegeaaGreatDoor.projectMany
#print axioms Go.Proofs.YtmoineigflegeaaGreatDoor.projectMany.proved
