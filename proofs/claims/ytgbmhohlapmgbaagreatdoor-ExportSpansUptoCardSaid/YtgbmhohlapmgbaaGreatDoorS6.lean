/- The statement ExportSpansUptoCardSaid of the given program is proved here: for every input whose bulk is at most the bound of its row, the law returns true and changes nothing. Part 6 of 7. -/
import Derived.Test.YtgbmhohlapmgbaaGreatDoorCards
import Derived.JoinedCond
import Derived.KernelRfl
import Derived.Test.YtgbmhohlapmgbaaGreatDoorS5
set_option linter.unusedVariables false
set_option linter.unusedSimpArgs false
set_option linter.unusedSectionVars false
set_option linter.constructorNameAsVariable false
set_option linter.defProp false
open Bool renaming true->W
open Go.Proofs.Tryz renaming f5->gQ,prog->be
open Go.Proofs.YtgbmhohlapmgbaaGreatDoor.Rows renaming exportSpansSpec->lj,exportSpansUptoRow->fH
open Go.Proofs.YtgbmhohlapmgbaaGreatDoor.Rows.OpenSpec renaming upto->ig
open Go.Proofs.YtgbmhohlapmgbaaGreatDoor.Tryz renaming pinned->kP
open Option renaming some->J
namespace Go.Proofs.YtgbmhohlapmgbaaGreatDoor.exportSpans
open Go
set_option maxRecDepth 100000
def dt{a b:Bool}(h1:a=W)(h2:b=W):(a&&b)=W:=by rw[h1,h2];rfl
def k1:(fH.wf (OpenSpec.ofChange ((ig lj).bare)))=W:=by kernel_rfl
def k2:(laidOutB be)=W:=by kernel_rfl
def k3:(mapsRowed be)=W:=by kernel_rfl
def k4:(gQ.params.all (be.readableRec ·))=W:=by kernel_rfl
def k5:(namedTie be fH.named ((ig lj).bare).vars)=W:=by kernel_rfl
def k6:((fH.stops==[]))=W:=by kernel_rfl
def k7:((be.stops==[]))=W:=by kernel_rfl
def k8:((fH.knobs==[]))=W:=by kernel_rfl
def k9:((be.stopKnobs==[]))=W:=by kernel_rfl
def Rw:((fH.inPlace==be.inPlace 5))=W:=by kernel_rfl
def Rx:((fH.unfollowed==be.unfollowed 5))=W:=by kernel_rfl
def Ry:((fH.recurses==be.recurses 5))=W:=by kernel_rfl
def Rz:((fH.named==be.varsNamed 5))=W:=by kernel_rfl
def RA:((fH.maps==(gQ.params.toList++((ig lj).bare).plain.varTypes be).any (be.mapsRec ·)))=W:=by kernel_rfl
def RC:((fH.ifaces==(gQ.params.toList++((ig lj).bare).plain.varTypes be).any (be.ifacesRec ·)))=W:=by kernel_rfl
def RE:((fH.mapsOut==be.mapsAmong gQ.resultTypes.toList))=W:=by kernel_rfl
def RF:((fH.loops==(gQ.params.toList++((ig lj).bare).plain.varTypes be).any (be.loopsFrom ·)))=W:=by kernel_rfl
def RG:((fH.wideKeys==(gQ.params.toList++((ig lj).bare).plain.varTypes be++gQ.resultTypes.toList).any (be.wideKeysFrom ·)))=W:=by kernel_rfl
def RH:(((ig lj).bare).vars.all (be.varReadable ·))=W:=by kernel_rfl
def RJ:(gQ.resultTypes.all (λt=>be.readableRec t&&decide (t<be.types.size)))=W:=by kernel_rfl
def RL:((fH.ifacesOut==gQ.resultTypes.toList.any (be.ifacesRec ·)))=W:=by kernel_rfl
def RM:((fH.loopsOut==gQ.resultTypes.toList.any (be.loopsFrom ·)))=W:=by kernel_rfl
def RN:((fH.plainKeys==be.plainKeys))=W:=by kernel_rfl
def pA:(fH.shortTexts.isNone)=W:=by kernel_rfl
def RP:(be.stopsHeard)=W:=by kernel_rfl
def RQ:(be.mayEnter)=W:=by kernel_rfl
def RS:((fH.lifted==be.liftsFinal))=W:=by kernel_rfl
def RT:((be.make==J fH.make))=W:=by kernel_rfl
def RU:((fH.kinds==(if fH.domain.isEmpty then[]else gQ.params.toList.map λt=>match be.underlying t with|some (.int k)=>J k|_=>none)))=W:=by kernel_rfl
def RW:((fH.pinned==fH.pinnedBy))=W:=by kernel_rfl
def RY:((fH.veiled==(gQ.params.toList++((ig lj).bare).plain.varTypes be++gQ.resultTypes.toList).any (be.veiledRec ·)))=W:=by kernel_rfl
def R0:(fH.veiledFits be gQ.params.toList (gQ.params.toList++((ig lj).bare).plain.varTypes be++gQ.resultTypes.toList))=W:=by kernel_rfl
def closed:joinedFacts be 5 gQ ((ig lj).bare) fH=W:=(dt (dt (dt (dt (dt (dt (dt (dt (dt (dt (dt (dt (dt (dt (dt (dt (dt (dt (dt (dt (dt (dt (dt (dt (dt (dt (dt (dt (dt (dt (dt k1 k2) k3) k4) k5) k6) k7) k8) k9) Rw) Rx) Ry) Rz) RA) RC) RE) RF) RG) RH) RJ) RL) RM) RN) pA) RP) RQ) RS) RT) RU) RW) RY) R0)
def h1:kP.checked.prog.funcNamed fH.func=J 5:=by kernel_rfl
theorem h2:gQ.isInstance kP.checked.prog fH.origin fH.targs:=of_decide_eq_true (by kernel_rfl)
def h3:gQ.isWrapper kP.checked.prog fH.wrapper fH.mainSum:=by unfold Func.isWrapper;first|(rw[if_pos (by decide+kernel)];kernel_rfl)|(rw[if_neg (by decide+kernel)];exact⟨rfl,rfl⟩)
def hwf:fH.wfByText (ig lj)=W:=by kernel_rfl
def hmain:kP.checked.prog.mainIs=J (W,"6419a547cb5836e536c90ec6741d6b42776b1268389dc43d936a11af80ff430a".toList):=by kernel_rfl
def hgoes:false=fH.goesBy kP.checked.prog:=by kernel_rfl
end Go.Proofs.YtgbmhohlapmgbaaGreatDoor.exportSpans
