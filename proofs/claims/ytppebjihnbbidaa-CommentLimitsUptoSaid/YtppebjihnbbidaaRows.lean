/-
  No cell of these rows narrows 'for every input' (looked for: loops, veiled, ifaces, maps, wideKeys, modest, calm, conditions, laid).
  DERIVED. THE GIVEN ROWS OF THIS SEAT. 6 by the template 'for every input the law returns true; each argument reads behind the call as it read before'; 0 by the template 'total and deterministic' (their statements: YtppebjihnbbidaaTotals.lean).
  GIVEN WITH THE SEED: the statements are not yours to turn. If you find one false, say at which input.
  Laid BY PROGRAM, IN A SANDBOX (cutbox-rows.mjs): the forced cells as the released guide's own fill.sh prints them over the translation 81f531efe5705b86… (all of the seat's roots in one cut). By AI agents, Wed Nov 11 2026. No macro, syntax, notation, axiom, sorry.
-/
import Derived.Test.YtppebjihnbbidaaChecked
import GoSem.Claim
import GoSem.ClaimJoined
import GoSem.ClaimMapViews
import Derived.JoinedTies
import Derived.KernelRfl
namespace Go.Proofs.Ytppebjihnbbidaa
/- THE CELL 'sum', in the pinned program and in every row, IS THE sha256 OF THE DUMP (.gsa) THAT YtppebjihnbbidaaProg.lean LOADS. Nothing in Lean hashes anything: it is a label: what it is worth is what the hold of that sum in a sandbox is worth. -/
noncomputable def Try.pinned : Pinned := { name := "ytppebjihnbbidaa", sum := "81f531efe5705b86036684572e582b57fa5982f21bd7e1a9b352142a464bbde6", checked := Try.checked }
namespace Rows
def none {H : Type} : Left H := { results := [], args := [] }

/-- 'bitextlaw31.CommentValidates': WHATEVER THE INPUT: true; the input reads as it did. -/
def commentValidatesSpec : ChangeSpec := { name := "commentValidates", fn := fun _ => fun
  | [d1, d2, d3, d4] => { results := [.lit (.bool true)], args := [d1, d2, d3, d4] }
  | _ => none }
def commentValidatesRow : OpenClaim := { program := "ytppebjihnbbidaa", sum := "81f531efe5705b86036684572e582b57fa5982f21bd7e1a9b352142a464bbde6", func := "bitext/bitextlaw31.CommentValidates", spec := "commentValidates", apart := false }
def CommentValidatesSaid : Prop := commentValidatesRow.holds Try.pinned (OpenSpec.ofChange commentValidatesSpec)

/-- ITS FALSE NEIGHBOUR: 'it returns false'. Refute it at one input. -/
def commentValidatesWrong : ChangeSpec := { name := "commentValidates", fn := fun _ => fun
  | [d1, d2, d3, d4] => { results := [.lit (.bool false)], args := [d1, d2, d3, d4] }
  | _ => none }
def CommentValidatesWrongFalsely : Prop := commentValidatesRow.holds Try.pinned (OpenSpec.ofChange commentValidatesWrong)

/-- 'bitextlaw31.CommentAdds': WHATEVER THE INPUT: true; the input reads as it did. -/
def commentAddsSpec : ChangeSpec := { name := "commentAdds", fn := fun _ => fun
  | [d1, d2, d3, d4, d5, d6, d7] => { results := [.lit (.bool true)], args := [d1, d2, d3, d4, d5, d6, d7] }
  | _ => none }
def commentAddsRow : OpenClaim := { program := "ytppebjihnbbidaa", sum := "81f531efe5705b86036684572e582b57fa5982f21bd7e1a9b352142a464bbde6", func := "bitext/bitextlaw31.CommentAdds", spec := "commentAdds", apart := false }
def CommentAddsSaid : Prop := commentAddsRow.holds Try.pinned (OpenSpec.ofChange commentAddsSpec)

/-- ITS FALSE NEIGHBOUR: 'it returns false'. Refute it at one input. -/
def commentAddsWrong : ChangeSpec := { name := "commentAdds", fn := fun _ => fun
  | [d1, d2, d3, d4, d5, d6, d7] => { results := [.lit (.bool false)], args := [d1, d2, d3, d4, d5, d6, d7] }
  | _ => none }
def CommentAddsWrongFalsely : Prop := commentAddsRow.holds Try.pinned (OpenSpec.ofChange commentAddsWrong)

/-- 'bitextlaw31.CommentLimits': WHATEVER THE INPUT: true; the input reads as it did. -/
def commentLimitsSpec : ChangeSpec := { name := "commentLimits", fn := fun _ => fun
  | [d1, d2] => { results := [.lit (.bool true)], args := [d1, d2] }
  | _ => none }
def commentLimitsRow : OpenClaim := { program := "ytppebjihnbbidaa", sum := "81f531efe5705b86036684572e582b57fa5982f21bd7e1a9b352142a464bbde6", func := "bitext/bitextlaw31.CommentLimits", spec := "commentLimits", apart := false }
def CommentLimitsSaid : Prop := commentLimitsRow.holds Try.pinned (OpenSpec.ofChange commentLimitsSpec)

/-- ITS FALSE NEIGHBOUR: 'it returns false'. Refute it at one input. -/
def commentLimitsWrong : ChangeSpec := { name := "commentLimits", fn := fun _ => fun
  | [d1, d2] => { results := [.lit (.bool false)], args := [d1, d2] }
  | _ => none }
def CommentLimitsWrongFalsely : Prop := commentLimitsRow.holds Try.pinned (OpenSpec.ofChange commentLimitsWrong)

/-- 'bitextlaw31.CommentCloses': WHATEVER THE INPUT: true; the input reads as it did. -/
def commentClosesSpec : ChangeSpec := { name := "commentCloses", fn := fun _ => fun
  | [d1, d2, d3] => { results := [.lit (.bool true)], args := [d1, d2, d3] }
  | _ => none }
def commentClosesRow : OpenClaim := { program := "ytppebjihnbbidaa", sum := "81f531efe5705b86036684572e582b57fa5982f21bd7e1a9b352142a464bbde6", func := "bitext/bitextlaw31.CommentCloses", spec := "commentCloses", apart := false }
def CommentClosesSaid : Prop := commentClosesRow.holds Try.pinned (OpenSpec.ofChange commentClosesSpec)

/-- ITS FALSE NEIGHBOUR: 'it returns false'. Refute it at one input. -/
def commentClosesWrong : ChangeSpec := { name := "commentCloses", fn := fun _ => fun
  | [d1, d2, d3] => { results := [.lit (.bool false)], args := [d1, d2, d3] }
  | _ => none }
def CommentClosesWrongFalsely : Prop := commentClosesRow.holds Try.pinned (OpenSpec.ofChange commentClosesWrong)

/-- 'bitextlaw31.CommentThreads': WHATEVER THE INPUT: true; the input reads as it did. -/
def commentThreadsSpec : ChangeSpec := { name := "commentThreads", fn := fun _ => fun
  | [d1, d2, d3, d4] => { results := [.lit (.bool true)], args := [d1, d2, d3, d4] }
  | _ => none }
def commentThreadsRow : OpenClaim := { program := "ytppebjihnbbidaa", sum := "81f531efe5705b86036684572e582b57fa5982f21bd7e1a9b352142a464bbde6", func := "bitext/bitextlaw31.CommentThreads", spec := "commentThreads", apart := false }
def CommentThreadsSaid : Prop := commentThreadsRow.holds Try.pinned (OpenSpec.ofChange commentThreadsSpec)

/-- ITS FALSE NEIGHBOUR: 'it returns false'. Refute it at one input. -/
def commentThreadsWrong : ChangeSpec := { name := "commentThreads", fn := fun _ => fun
  | [d1, d2, d3, d4] => { results := [.lit (.bool false)], args := [d1, d2, d3, d4] }
  | _ => none }
def CommentThreadsWrongFalsely : Prop := commentThreadsRow.holds Try.pinned (OpenSpec.ofChange commentThreadsWrong)

/-- 'bitextlaw31.CommentMoves': WHATEVER THE INPUT: true; the input reads as it did. -/
def commentMovesSpec : ChangeSpec := { name := "commentMoves", fn := fun _ => fun
  | [d1, d2, d3, d4] => { results := [.lit (.bool true)], args := [d1, d2, d3, d4] }
  | _ => none }
def commentMovesRow : OpenClaim := { program := "ytppebjihnbbidaa", sum := "81f531efe5705b86036684572e582b57fa5982f21bd7e1a9b352142a464bbde6", func := "bitext/bitextlaw31.CommentMoves", spec := "commentMoves", apart := false }
def CommentMovesSaid : Prop := commentMovesRow.holds Try.pinned (OpenSpec.ofChange commentMovesSpec)

/-- ITS FALSE NEIGHBOUR: 'it returns false'. Refute it at one input. -/
def commentMovesWrong : ChangeSpec := { name := "commentMoves", fn := fun _ => fun
  | [d1, d2, d3, d4] => { results := [.lit (.bool false)], args := [d1, d2, d3, d4] }
  | _ => none }
def CommentMovesWrongFalsely : Prop := commentMovesRow.holds Try.pinned (OpenSpec.ofChange commentMovesWrong)

/- THE SECOND FORM. 'bulk': how many values and letters a reading holds, each counted each time it is reached (what is shared counts as often as it is met; a slice's spare places count too). A statement '..UptoSaid' is the law's where the arguments, and the package variables that the reading takes, are together of bulk at most 1048576: NARROWER than '..Said'. Prove '..Said' where nothing that the law and all that it calls make is longer than what came in: it says more and counts as full. Else prove '..UptoSaid'. A law counts once. -/
mutual
def uptoBulk {H : Type} : DataW H → Nat
  | .lit (.string bytes) => bytes.length + 1
  | .lit _ => 1
  | .nil => 1
  | .ptr d => uptoBulk d + 1
  | .slice elems spare => uptoBulkAll elems + uptoBulkAll spare + 1
  | .agg parts => uptoBulkAll parts + 1
  | .iface _ d => uptoBulk d + 1
  | .map entries => uptoBulkEntries entries + 1
  | .held _ => 1
def uptoBulkAll {H : Type} : List (DataW H) → Nat
  | [] => 0
  | d :: r => uptoBulk d + uptoBulkAll r
def uptoBulkEntries {H : Type} : List (Lit × DataW H) → Nat
  | [] => 0
  | x :: r => uptoBulkEntry x + uptoBulkEntries r
def uptoBulkEntry {H : Type} : Lit × DataW H → Nat
  | (.string bytes, d) => bytes.length + uptoBulk d + 1
  | (_, d) => uptoBulk d + 1
 end
def uptoSmall : (H : Type) → List (DataW H) → Bool := fun _ ds => decide (uptoBulkAll ds ≤ 1048576)
def OpenSpec.upto (s : _root_.Go.ChangeSpec) : _root_.Go.OpenSpec := { _root_.Go.OpenSpec.ofChange s with cond := some uptoSmall }

/-- 'bitextlaw31.CommentValidates', WHERE WHAT IT READS IS OF BULK AT MOST 1048576: true; the input reads as it did. -/
def commentValidatesUptoRow : OpenClaim := { program := "ytppebjihnbbidaa", sum := "81f531efe5705b86036684572e582b57fa5982f21bd7e1a9b352142a464bbde6", func := "bitext/bitextlaw31.CommentValidates", spec := "commentValidates", apart := false, narrowed := true }
def CommentValidatesUptoSaid : Prop := commentValidatesUptoRow.holds Try.pinned (OpenSpec.upto commentValidatesSpec)

/-- 'bitextlaw31.CommentAdds', WHERE WHAT IT READS IS OF BULK AT MOST 1048576: true; the input reads as it did. -/
def commentAddsUptoRow : OpenClaim := { program := "ytppebjihnbbidaa", sum := "81f531efe5705b86036684572e582b57fa5982f21bd7e1a9b352142a464bbde6", func := "bitext/bitextlaw31.CommentAdds", spec := "commentAdds", apart := false, narrowed := true }
def CommentAddsUptoSaid : Prop := commentAddsUptoRow.holds Try.pinned (OpenSpec.upto commentAddsSpec)

/-- 'bitextlaw31.CommentLimits', WHERE WHAT IT READS IS OF BULK AT MOST 1048576: true; the input reads as it did. -/
def commentLimitsUptoRow : OpenClaim := { program := "ytppebjihnbbidaa", sum := "81f531efe5705b86036684572e582b57fa5982f21bd7e1a9b352142a464bbde6", func := "bitext/bitextlaw31.CommentLimits", spec := "commentLimits", apart := false, narrowed := true }
def CommentLimitsUptoSaid : Prop := commentLimitsUptoRow.holds Try.pinned (OpenSpec.upto commentLimitsSpec)

/-- 'bitextlaw31.CommentCloses', WHERE WHAT IT READS IS OF BULK AT MOST 1048576: true; the input reads as it did. -/
def commentClosesUptoRow : OpenClaim := { program := "ytppebjihnbbidaa", sum := "81f531efe5705b86036684572e582b57fa5982f21bd7e1a9b352142a464bbde6", func := "bitext/bitextlaw31.CommentCloses", spec := "commentCloses", apart := false, narrowed := true }
def CommentClosesUptoSaid : Prop := commentClosesUptoRow.holds Try.pinned (OpenSpec.upto commentClosesSpec)

/-- 'bitextlaw31.CommentThreads', WHERE WHAT IT READS IS OF BULK AT MOST 1048576: true; the input reads as it did. -/
def commentThreadsUptoRow : OpenClaim := { program := "ytppebjihnbbidaa", sum := "81f531efe5705b86036684572e582b57fa5982f21bd7e1a9b352142a464bbde6", func := "bitext/bitextlaw31.CommentThreads", spec := "commentThreads", apart := false, narrowed := true }
def CommentThreadsUptoSaid : Prop := commentThreadsUptoRow.holds Try.pinned (OpenSpec.upto commentThreadsSpec)

/-- 'bitextlaw31.CommentMoves', WHERE WHAT IT READS IS OF BULK AT MOST 1048576: true; the input reads as it did. -/
def commentMovesUptoRow : OpenClaim := { program := "ytppebjihnbbidaa", sum := "81f531efe5705b86036684572e582b57fa5982f21bd7e1a9b352142a464bbde6", func := "bitext/bitextlaw31.CommentMoves", spec := "commentMoves", apart := false, narrowed := true }
def CommentMovesUptoSaid : Prop := commentMovesUptoRow.holds Try.pinned (OpenSpec.upto commentMovesSpec)

end Rows
end Go.Proofs.Ytppebjihnbbidaa
