/- The statement ExportLeftUptoCardSaid of the given program is proved here: for every input whose bulk is at most the bound of its row, the law returns true and changes nothing. Part 6 of 7. -/
import Derived.Test.YtgbmhohlapmgbaaGreatDoorCards
import Derived.JoinedCond
import Derived.KernelRfl
import Derived.Test.YtgbmhohlapmgbaaGreatDoorL5
set_option linter.unusedVariables false
set_option linter.unusedSimpArgs false
set_option linter.unusedSectionVars false
set_option linter.constructorNameAsVariable false
set_option linter.defProp false
open Bool renaming true->W
open Go.Proofs.Tryz renaming f8->gI,prog->bC
open Go.Proofs.YtgbmhohlapmgbaaGreatDoor.Rows renaming exportLeftSpec->lb,exportLeftUptoRow->fH
open Go.Proofs.YtgbmhohlapmgbaaGreatDoor.Rows.OpenSpec renaming upto->nR
open Go.Proofs.YtgbmhohlapmgbaaGreatDoor.Tryz renaming pinned->ur
open Option renaming some->J
namespace Go.Proofs.YtgbmhohlapmgbaaGreatDoor.exportLeft
open Go
set_option maxRecDepth 100000
def fM{a b:Bool}(h1:a=W)(h2:b=W):(a&&b)=W:=by rw[h1,h2];rfl
def k1:(fH.wf (OpenSpec.ofChange ((nR lb).bare)))=W:=by kernel_rfl
def k2:(laidOutB bC)=W:=by kernel_rfl
def k3:(mapsRowed bC)=W:=by kernel_rfl
def k4:(gI.params.all (bC.readableRec ·))=W:=by kernel_rfl
def k5:(namedTie bC fH.named ((nR lb).bare).vars)=W:=by kernel_rfl
def k6:((fH.stops==[]))=W:=by kernel_rfl
def k7:((bC.stops==[]))=W:=by kernel_rfl
def k8:((fH.knobs==[]))=W:=by kernel_rfl
def k9:((bC.stopKnobs==[]))=W:=by kernel_rfl
def k10:((fH.inPlace==bC.inPlace 8))=W:=by kernel_rfl
def k11:((fH.unfollowed==bC.unfollowed 8))=W:=by kernel_rfl
def k12:((fH.recurses==bC.recurses 8))=W:=by kernel_rfl
def k13:((fH.named==bC.varsNamed 8))=W:=by kernel_rfl
def k14:((fH.maps==(gI.params.toList++((nR lb).bare).plain.varTypes bC).any (bC.mapsRec ·)))=W:=by kernel_rfl
def k15:((fH.ifaces==(gI.params.toList++((nR lb).bare).plain.varTypes bC).any (bC.ifacesRec ·)))=W:=by kernel_rfl
def k16:((fH.mapsOut==bC.mapsAmong gI.resultTypes.toList))=W:=by kernel_rfl
def k17:((fH.loops==(gI.params.toList++((nR lb).bare).plain.varTypes bC).any (bC.loopsFrom ·)))=W:=by kernel_rfl
def k18:((fH.wideKeys==(gI.params.toList++((nR lb).bare).plain.varTypes bC++gI.resultTypes.toList).any (bC.wideKeysFrom ·)))=W:=by kernel_rfl
def k19:(((nR lb).bare).vars.all (bC.varReadable ·))=W:=by kernel_rfl
def k20:(gI.resultTypes.all (λt=>bC.readableRec t&&decide (t<bC.types.size)))=W:=by kernel_rfl
def k21:((fH.ifacesOut==gI.resultTypes.toList.any (bC.ifacesRec ·)))=W:=by kernel_rfl
def k22:((fH.loopsOut==gI.resultTypes.toList.any (bC.loopsFrom ·)))=W:=by kernel_rfl
def k23:((fH.plainKeys==bC.plainKeys))=W:=by kernel_rfl
def rL:(fH.shortTexts.isNone)=W:=by kernel_rfl
def k25:(bC.stopsHeard)=W:=by kernel_rfl
def k26:(bC.mayEnter)=W:=by kernel_rfl
def k27:((fH.lifted==bC.liftsFinal))=W:=by kernel_rfl
def k28:((bC.make==J fH.make))=W:=by kernel_rfl
def k29:((fH.kinds==(if fH.domain.isEmpty then[]else gI.params.toList.map λt=>match bC.underlying t with|some (.int k)=>J k|_=>none)))=W:=by kernel_rfl
def k30:((fH.pinned==fH.pinnedBy))=W:=by kernel_rfl
def k31:((fH.veiled==(gI.params.toList++((nR lb).bare).plain.varTypes bC++gI.resultTypes.toList).any (bC.veiledRec ·)))=W:=by kernel_rfl
def k32:(fH.veiledFits bC gI.params.toList (gI.params.toList++((nR lb).bare).plain.varTypes bC++gI.resultTypes.toList))=W:=by kernel_rfl
def closed:joinedFacts bC 8 gI ((nR lb).bare) fH=W:=(fM (fM (fM (fM (fM (fM (fM (fM (fM (fM (fM (fM (fM (fM (fM (fM (fM (fM (fM (fM (fM (fM (fM (fM (fM (fM (fM (fM (fM (fM (fM k1 k2) k3) k4) k5) k6) k7) k8) k9) k10) k11) k12) k13) k14) k15) k16) k17) k18) k19) k20) k21) k22) k23) rL) k25) k26) k27) k28) k29) k30) k31) k32)
def h1:ur.checked.prog.funcNamed fH.func=J 8:=by kernel_rfl
theorem h2:gI.isInstance ur.checked.prog fH.origin fH.targs:=of_decide_eq_true (by kernel_rfl)
theorem h3:gI.isWrapper ur.checked.prog fH.wrapper fH.mainSum:=by unfold Func.isWrapper;first|(rw[if_pos (by decide+kernel)];kernel_rfl)|(rw[if_neg (by decide+kernel)];exact⟨rfl,rfl⟩)
def hwf:fH.wfByText (nR lb)=W:=by kernel_rfl
def hmain:ur.checked.prog.mainIs=J (W,"6419a547cb5836e536c90ec6741d6b42776b1268389dc43d936a11af80ff430a".toList):=by kernel_rfl
def hgoes:false=fH.goesBy ur.checked.prog:=by kernel_rfl
end Go.Proofs.YtgbmhohlapmgbaaGreatDoor.exportLeft
