/- The statement ExportPreviewsUptoCardSaid of the given program is proved here: for every input whose bulk is at most the bound of its row, the law returns true and changes nothing. Part 6 of 7. -/
import Derived.Test.YtgbmhohlapmgbaaGreatDoorCards
import Derived.JoinedCond
import Derived.KernelRfl
import Derived.Test.YtgbmhohlapmgbaaGreatDoorV5
set_option linter.unusedVariables false
set_option linter.unusedSimpArgs false
set_option linter.unusedSectionVars false
set_option linter.constructorNameAsVariable false
set_option linter.defProp false
open Bool renaming true->W
open Go.Proofs.Tryz renaming f4->aaH,prog->a7
open Go.Proofs.YtgbmhohlapmgbaaGreatDoor.Rows renaming exportPreviewsSpec->aaK,exportPreviewsUptoRow->aae
open Go.Proofs.YtgbmhohlapmgbaaGreatDoor.Rows.OpenSpec renaming upto->me
open Go.Proofs.YtgbmhohlapmgbaaGreatDoor.Tryz renaming pinned->rZ
open Option renaming some->J
namespace Go.Proofs.YtgbmhohlapmgbaaGreatDoor.exportPreviews
open Go
set_option maxRecDepth 100000
def ez{a b:Bool}(h1:a=W)(h2:b=W):(a&&b)=W:=by rw[h1,h2];rfl
def k1:(aae.wf (OpenSpec.ofChange ((me aaK).bare)))=W:=by kernel_rfl
def k2:(laidOutB a7)=W:=by kernel_rfl
def k3:(mapsRowed a7)=W:=by kernel_rfl
def k4:(aaH.params.all (a7.readableRec ·))=W:=by kernel_rfl
def k5:(namedTie a7 aae.named ((me aaK).bare).vars)=W:=by kernel_rfl
def k6:((aae.stops==[]))=W:=by kernel_rfl
def k7:((a7.stops==[]))=W:=by kernel_rfl
def k8:((aae.knobs==[]))=W:=by kernel_rfl
def k9:((a7.stopKnobs==[]))=W:=by kernel_rfl
def k10:((aae.inPlace==a7.inPlace 4))=W:=by kernel_rfl
def k11:((aae.unfollowed==a7.unfollowed 4))=W:=by kernel_rfl
def k12:((aae.recurses==a7.recurses 4))=W:=by kernel_rfl
def k13:((aae.named==a7.varsNamed 4))=W:=by kernel_rfl
def k14:((aae.maps==(aaH.params.toList++((me aaK).bare).plain.varTypes a7).any (a7.mapsRec ·)))=W:=by kernel_rfl
def k15:((aae.ifaces==(aaH.params.toList++((me aaK).bare).plain.varTypes a7).any (a7.ifacesRec ·)))=W:=by kernel_rfl
def k16:((aae.mapsOut==a7.mapsAmong aaH.resultTypes.toList))=W:=by kernel_rfl
def k17:((aae.loops==(aaH.params.toList++((me aaK).bare).plain.varTypes a7).any (a7.loopsFrom ·)))=W:=by kernel_rfl
def k18:((aae.wideKeys==(aaH.params.toList++((me aaK).bare).plain.varTypes a7++aaH.resultTypes.toList).any (a7.wideKeysFrom ·)))=W:=by kernel_rfl
def k19:(((me aaK).bare).vars.all (a7.varReadable ·))=W:=by kernel_rfl
def k20:(aaH.resultTypes.all (λt=>a7.readableRec t&&decide (t<a7.types.size)))=W:=by kernel_rfl
def k21:((aae.ifacesOut==aaH.resultTypes.toList.any (a7.ifacesRec ·)))=W:=by kernel_rfl
def k22:((aae.loopsOut==aaH.resultTypes.toList.any (a7.loopsFrom ·)))=W:=by kernel_rfl
def k23:((aae.plainKeys==a7.plainKeys))=W:=by kernel_rfl
def qh:(aae.shortTexts.isNone)=W:=by kernel_rfl
def k25:(a7.stopsHeard)=W:=by kernel_rfl
def k26:(a7.mayEnter)=W:=by kernel_rfl
def k27:((aae.lifted==a7.liftsFinal))=W:=by kernel_rfl
def k28:((a7.make==J aae.make))=W:=by kernel_rfl
def k29:((aae.kinds==(if aae.domain.isEmpty then[]else aaH.params.toList.map λt=>match a7.underlying t with|some (.int k)=>J k|_=>none)))=W:=by kernel_rfl
def k30:((aae.pinned==aae.pinnedBy))=W:=by kernel_rfl
def k31:((aae.veiled==(aaH.params.toList++((me aaK).bare).plain.varTypes a7++aaH.resultTypes.toList).any (a7.veiledRec ·)))=W:=by kernel_rfl
def k32:(aae.veiledFits a7 aaH.params.toList (aaH.params.toList++((me aaK).bare).plain.varTypes a7++aaH.resultTypes.toList))=W:=by kernel_rfl
def closed:joinedFacts a7 4 aaH ((me aaK).bare) aae=W:=(ez (ez (ez (ez (ez (ez (ez (ez (ez (ez (ez (ez (ez (ez (ez (ez (ez (ez (ez (ez (ez (ez (ez (ez (ez (ez (ez (ez (ez (ez (ez k1 k2) k3) k4) k5) k6) k7) k8) k9) k10) k11) k12) k13) k14) k15) k16) k17) k18) k19) k20) k21) k22) k23) qh) k25) k26) k27) k28) k29) k30) k31) k32)
def h1:rZ.checked.prog.funcNamed aae.func=J 4:=by kernel_rfl
theorem h2:aaH.isInstance rZ.checked.prog aae.origin aae.targs:=of_decide_eq_true (by kernel_rfl)
def h3:aaH.isWrapper rZ.checked.prog aae.wrapper aae.mainSum:=by unfold Func.isWrapper;first|(rw[if_pos (by decide+kernel)];kernel_rfl)|(rw[if_neg (by decide+kernel)];exact⟨rfl,rfl⟩)
def hwf:aae.wfByText (me aaK)=W:=by kernel_rfl
def hmain:rZ.checked.prog.mainIs=J (W,"6419a547cb5836e536c90ec6741d6b42776b1268389dc43d936a11af80ff430a".toList):=by kernel_rfl
def hgoes:false=aae.goesBy rZ.checked.prog:=by kernel_rfl
end Go.Proofs.YtgbmhohlapmgbaaGreatDoor.exportPreviews
