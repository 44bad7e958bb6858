/- The statement ExportWritesUptoCardSaid of the given program is proved here: for every input whose bulk is at most the bound of its row, the law returns true and changes nothing. Part 6 of 7. -/
import Derived.Test.YtgbmhohlapmgbaaGreatDoorCards
import Derived.JoinedCond
import Derived.KernelRfl
import Derived.Test.YtgbmhohlapmgbaaGreatDoorV5
set_option linter.unusedVariables false
set_option linter.unusedSimpArgs false
set_option linter.unusedSectionVars false
set_option linter.constructorNameAsVariable false
set_option linter.defProp false
open Bool renaming true->W
open Go.Proofs.Tryz renaming f3->fq,prog->a7
open Go.Proofs.YtgbmhohlapmgbaaGreatDoor.Rows renaming exportWritesSpec->jG,exportWritesUptoRow->er
open Go.Proofs.YtgbmhohlapmgbaaGreatDoor.Rows.OpenSpec renaming upto->me
open Go.Proofs.YtgbmhohlapmgbaaGreatDoor.Tryz renaming pinned->rZ
open Option renaming some->J
namespace Go.Proofs.YtgbmhohlapmgbaaGreatDoor.exportWrites
open Go
set_option maxRecDepth 100000
def ez{a b:Bool}(h1:a=W)(h2:b=W):(a&&b)=W:=by rw[h1,h2];rfl
def k1:(er.wf (OpenSpec.ofChange ((me jG).bare)))=W:=by kernel_rfl
def k2:(laidOutB a7)=W:=by kernel_rfl
def k3:(mapsRowed a7)=W:=by kernel_rfl
def k4:(fq.params.all (a7.readableRec ·))=W:=by kernel_rfl
def k5:(namedTie a7 er.named ((me jG).bare).vars)=W:=by kernel_rfl
def k6:((er.stops==[]))=W:=by kernel_rfl
def k7:((a7.stops==[]))=W:=by kernel_rfl
def k8:((er.knobs==[]))=W:=by kernel_rfl
def k9:((a7.stopKnobs==[]))=W:=by kernel_rfl
def k10:((er.inPlace==a7.inPlace 3))=W:=by kernel_rfl
def k11:((er.unfollowed==a7.unfollowed 3))=W:=by kernel_rfl
def k12:((er.recurses==a7.recurses 3))=W:=by kernel_rfl
def k13:((er.named==a7.varsNamed 3))=W:=by kernel_rfl
def k14:((er.maps==(fq.params.toList++((me jG).bare).plain.varTypes a7).any (a7.mapsRec ·)))=W:=by kernel_rfl
def k15:((er.ifaces==(fq.params.toList++((me jG).bare).plain.varTypes a7).any (a7.ifacesRec ·)))=W:=by kernel_rfl
def k16:((er.mapsOut==a7.mapsAmong fq.resultTypes.toList))=W:=by kernel_rfl
def k17:((er.loops==(fq.params.toList++((me jG).bare).plain.varTypes a7).any (a7.loopsFrom ·)))=W:=by kernel_rfl
def k18:((er.wideKeys==(fq.params.toList++((me jG).bare).plain.varTypes a7++fq.resultTypes.toList).any (a7.wideKeysFrom ·)))=W:=by kernel_rfl
def k19:(((me jG).bare).vars.all (a7.varReadable ·))=W:=by kernel_rfl
def k20:(fq.resultTypes.all (λt=>a7.readableRec t&&decide (t<a7.types.size)))=W:=by kernel_rfl
def k21:((er.ifacesOut==fq.resultTypes.toList.any (a7.ifacesRec ·)))=W:=by kernel_rfl
def k22:((er.loopsOut==fq.resultTypes.toList.any (a7.loopsFrom ·)))=W:=by kernel_rfl
def k23:((er.plainKeys==a7.plainKeys))=W:=by kernel_rfl
def qh:(er.shortTexts.isNone)=W:=by kernel_rfl
def k25:(a7.stopsHeard)=W:=by kernel_rfl
def k26:(a7.mayEnter)=W:=by kernel_rfl
def k27:((er.lifted==a7.liftsFinal))=W:=by kernel_rfl
def k28:((a7.make==J er.make))=W:=by kernel_rfl
def k29:((er.kinds==(if er.domain.isEmpty then[]else fq.params.toList.map λt=>match a7.underlying t with|some (.int k)=>J k|_=>none)))=W:=by kernel_rfl
def k30:((er.pinned==er.pinnedBy))=W:=by kernel_rfl
def k31:((er.veiled==(fq.params.toList++((me jG).bare).plain.varTypes a7++fq.resultTypes.toList).any (a7.veiledRec ·)))=W:=by kernel_rfl
def k32:(er.veiledFits a7 fq.params.toList (fq.params.toList++((me jG).bare).plain.varTypes a7++fq.resultTypes.toList))=W:=by kernel_rfl
def closed:joinedFacts a7 3 fq ((me jG).bare) er=W:=(ez (ez (ez (ez (ez (ez (ez (ez (ez (ez (ez (ez (ez (ez (ez (ez (ez (ez (ez (ez (ez (ez (ez (ez (ez (ez (ez (ez (ez (ez (ez k1 k2) k3) k4) k5) k6) k7) k8) k9) k10) k11) k12) k13) k14) k15) k16) k17) k18) k19) k20) k21) k22) k23) qh) k25) k26) k27) k28) k29) k30) k31) k32)
def h1:rZ.checked.prog.funcNamed er.func=J 3:=by kernel_rfl
theorem h2:fq.isInstance rZ.checked.prog er.origin er.targs:=of_decide_eq_true (by kernel_rfl)
def h3:fq.isWrapper rZ.checked.prog er.wrapper er.mainSum:=by unfold Func.isWrapper;first|(rw[if_pos (by decide+kernel)];kernel_rfl)|(rw[if_neg (by decide+kernel)];exact⟨rfl,rfl⟩)
def hwf:er.wfByText (me jG)=W:=by kernel_rfl
def hmain:rZ.checked.prog.mainIs=J (W,"6419a547cb5836e536c90ec6741d6b42776b1268389dc43d936a11af80ff430a".toList):=by kernel_rfl
def hgoes:false=er.goesBy rZ.checked.prog:=by kernel_rfl
end Go.Proofs.YtgbmhohlapmgbaaGreatDoor.exportWrites
