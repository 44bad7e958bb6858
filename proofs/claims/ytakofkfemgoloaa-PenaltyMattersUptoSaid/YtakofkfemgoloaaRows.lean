/-
  No cell of these rows narrows 'for every input' (looked for: loops, veiled, ifaces, maps, wideKeys, modest, calm, conditions, laid).
  DERIVED. THE GIVEN ROWS OF THIS SEAT. 5 by the template 'for every input the law returns true; each argument reads behind the call as it read before'; 0 by the template 'total and deterministic' (their statements: YtakofkfemgoloaaTotals.lean).
  GIVEN WITH THE SEED: the statements are not yours to turn. If you find one false, say at which input.
  Laid BY PROGRAM, IN A SANDBOX (cutbox-rows.mjs): the forced cells as the released guide's own fill.sh prints them over the translation 92a122c7c5a6d348… (all of the seat's roots in one cut). By AI agents, Wed Nov 11 2026. No macro, syntax, notation, axiom, sorry.
-/
import Derived.Test.YtakofkfemgoloaaChecked
import GoSem.Claim
import GoSem.ClaimJoined
import GoSem.ClaimMapViews
import Derived.JoinedTies
import Derived.KernelRfl
namespace Go.Proofs.Ytakofkfemgoloaa
/- THE CELL 'sum', in the pinned program and in every row, IS THE sha256 OF THE DUMP (.gsa) THAT YtakofkfemgoloaaProg.lean LOADS. Nothing in Lean hashes anything: it is a label: what it is worth is what the hold of that sum in a sandbox is worth. -/
noncomputable def Try.pinned : Pinned := { name := "ytakofkfemgoloaa", sum := "92a122c7c5a6d348394fe397ae7cbf9b30ce233c29449bd81dcc0013358a02d2", checked := Try.checked }
namespace Rows
def none {H : Type} : Left H := { results := [], args := [] }

/-- 'bitextlaw17.PenaltyApplies': WHATEVER THE INPUT: true; the input reads as it did. -/
def penaltyAppliesSpec : ChangeSpec := { name := "penaltyApplies", fn := fun _ => fun
  | [d1, d2, d3, d4, d5] => { results := [.lit (.bool true)], args := [d1, d2, d3, d4, d5] }
  | _ => none }
def penaltyAppliesRow : OpenClaim := { program := "ytakofkfemgoloaa", sum := "92a122c7c5a6d348394fe397ae7cbf9b30ce233c29449bd81dcc0013358a02d2", func := "bitext/bitextlaw17.PenaltyApplies", spec := "penaltyApplies", inPlace := ["math/bits.Sub64"], apart := false }
def PenaltyAppliesSaid : Prop := penaltyAppliesRow.holds Try.pinned (OpenSpec.ofChange penaltyAppliesSpec)

/-- ITS FALSE NEIGHBOUR: 'it returns false'. Refute it at one input. -/
def penaltyAppliesWrong : ChangeSpec := { name := "penaltyApplies", fn := fun _ => fun
  | [d1, d2, d3, d4, d5] => { results := [.lit (.bool false)], args := [d1, d2, d3, d4, d5] }
  | _ => none }
def PenaltyAppliesWrongFalsely : Prop := penaltyAppliesRow.holds Try.pinned (OpenSpec.ofChange penaltyAppliesWrong)

/-- 'bitextlaw17.PenaltyAges': WHATEVER THE INPUT: true; the input reads as it did. -/
def penaltyAgesSpec : ChangeSpec := { name := "penaltyAges", fn := fun _ => fun
  | [d1, d2] => { results := [.lit (.bool true)], args := [d1, d2] }
  | _ => none }
def penaltyAgesRow : OpenClaim := { program := "ytakofkfemgoloaa", sum := "92a122c7c5a6d348394fe397ae7cbf9b30ce233c29449bd81dcc0013358a02d2", func := "bitext/bitextlaw17.PenaltyAges", spec := "penaltyAges", inPlace := ["math/bits.Sub64"], apart := false }
def PenaltyAgesSaid : Prop := penaltyAgesRow.holds Try.pinned (OpenSpec.ofChange penaltyAgesSpec)

/-- ITS FALSE NEIGHBOUR: 'it returns false'. Refute it at one input. -/
def penaltyAgesWrong : ChangeSpec := { name := "penaltyAges", fn := fun _ => fun
  | [d1, d2] => { results := [.lit (.bool false)], args := [d1, d2] }
  | _ => none }
def PenaltyAgesWrongFalsely : Prop := penaltyAgesRow.holds Try.pinned (OpenSpec.ofChange penaltyAgesWrong)

/-- 'bitextlaw17.PenaltyAdds': WHATEVER THE INPUT: true; the input reads as it did. -/
def penaltyAddsSpec : ChangeSpec := { name := "penaltyAdds", fn := fun _ => fun
  | [d1, d2, d3, d4] => { results := [.lit (.bool true)], args := [d1, d2, d3, d4] }
  | _ => none }
def penaltyAddsRow : OpenClaim := { program := "ytakofkfemgoloaa", sum := "92a122c7c5a6d348394fe397ae7cbf9b30ce233c29449bd81dcc0013358a02d2", func := "bitext/bitextlaw17.PenaltyAdds", spec := "penaltyAdds", inPlace := ["math/bits.Sub64"], apart := false }
def PenaltyAddsSaid : Prop := penaltyAddsRow.holds Try.pinned (OpenSpec.ofChange penaltyAddsSpec)

/-- ITS FALSE NEIGHBOUR: 'it returns false'. Refute it at one input. -/
def penaltyAddsWrong : ChangeSpec := { name := "penaltyAdds", fn := fun _ => fun
  | [d1, d2, d3, d4] => { results := [.lit (.bool false)], args := [d1, d2, d3, d4] }
  | _ => none }
def PenaltyAddsWrongFalsely : Prop := penaltyAddsRow.holds Try.pinned (OpenSpec.ofChange penaltyAddsWrong)

/-- 'bitextlaw17.PenaltyMatters': WHATEVER THE INPUT: true; the input reads as it did. -/
def penaltyMattersSpec : ChangeSpec := { name := "penaltyMatters", fn := fun _ => fun
  | [d1, d2, d3, d4] => { results := [.lit (.bool true)], args := [d1, d2, d3, d4] }
  | _ => none }
def penaltyMattersRow : OpenClaim := { program := "ytakofkfemgoloaa", sum := "92a122c7c5a6d348394fe397ae7cbf9b30ce233c29449bd81dcc0013358a02d2", func := "bitext/bitextlaw17.PenaltyMatters", spec := "penaltyMatters", inPlace := ["math/bits.Sub64"], apart := false }
def PenaltyMattersSaid : Prop := penaltyMattersRow.holds Try.pinned (OpenSpec.ofChange penaltyMattersSpec)

/-- ITS FALSE NEIGHBOUR: 'it returns false'. Refute it at one input. -/
def penaltyMattersWrong : ChangeSpec := { name := "penaltyMatters", fn := fun _ => fun
  | [d1, d2, d3, d4] => { results := [.lit (.bool false)], args := [d1, d2, d3, d4] }
  | _ => none }
def PenaltyMattersWrongFalsely : Prop := penaltyMattersRow.holds Try.pinned (OpenSpec.ofChange penaltyMattersWrong)

/-- 'bitextlaw17.PenaltyValidates': WHATEVER THE INPUT: true; the input reads as it did. -/
def penaltyValidatesSpec : ChangeSpec := { name := "penaltyValidates", fn := fun _ => fun
  | [d1, d2, d3, d4] => { results := [.lit (.bool true)], args := [d1, d2, d3, d4] }
  | _ => none }
def penaltyValidatesRow : OpenClaim := { program := "ytakofkfemgoloaa", sum := "92a122c7c5a6d348394fe397ae7cbf9b30ce233c29449bd81dcc0013358a02d2", func := "bitext/bitextlaw17.PenaltyValidates", spec := "penaltyValidates", inPlace := ["math/bits.Sub64"], apart := false }
def PenaltyValidatesSaid : Prop := penaltyValidatesRow.holds Try.pinned (OpenSpec.ofChange penaltyValidatesSpec)

/-- ITS FALSE NEIGHBOUR: 'it returns false'. Refute it at one input. -/
def penaltyValidatesWrong : ChangeSpec := { name := "penaltyValidates", fn := fun _ => fun
  | [d1, d2, d3, d4] => { results := [.lit (.bool false)], args := [d1, d2, d3, d4] }
  | _ => none }
def PenaltyValidatesWrongFalsely : Prop := penaltyValidatesRow.holds Try.pinned (OpenSpec.ofChange penaltyValidatesWrong)

/- THE SECOND FORM. 'bulk': how many values and letters a reading holds, each counted each time it is reached (what is shared counts as often as it is met; a slice's spare places count too). A statement '..UptoSaid' is the law's where the arguments, and the package variables that the reading takes, are together of bulk at most 1048576: NARROWER than '..Said'. Prove '..Said' where nothing that the law and all that it calls make is longer than what came in: it says more and counts as full. Else prove '..UptoSaid'. A law counts once. -/
mutual
def uptoBulk {H : Type} : DataW H → Nat
  | .lit (.string bytes) => bytes.length + 1
  | .lit _ => 1
  | .nil => 1
  | .ptr d => uptoBulk d + 1
  | .slice elems spare => uptoBulkAll elems + uptoBulkAll spare + 1
  | .agg parts => uptoBulkAll parts + 1
  | .iface _ d => uptoBulk d + 1
  | .map entries => uptoBulkEntries entries + 1
  | .held _ => 1
def uptoBulkAll {H : Type} : List (DataW H) → Nat
  | [] => 0
  | d :: r => uptoBulk d + uptoBulkAll r
def uptoBulkEntries {H : Type} : List (Lit × DataW H) → Nat
  | [] => 0
  | x :: r => uptoBulkEntry x + uptoBulkEntries r
def uptoBulkEntry {H : Type} : Lit × DataW H → Nat
  | (.string bytes, d) => bytes.length + uptoBulk d + 1
  | (_, d) => uptoBulk d + 1
 end
def uptoSmall : (H : Type) → List (DataW H) → Bool := fun _ ds => decide (uptoBulkAll ds ≤ 1048576)
def OpenSpec.upto (s : _root_.Go.ChangeSpec) : _root_.Go.OpenSpec := { _root_.Go.OpenSpec.ofChange s with cond := some uptoSmall }

/-- 'bitextlaw17.PenaltyApplies', WHERE WHAT IT READS IS OF BULK AT MOST 1048576: true; the input reads as it did. -/
def penaltyAppliesUptoRow : OpenClaim := { program := "ytakofkfemgoloaa", sum := "92a122c7c5a6d348394fe397ae7cbf9b30ce233c29449bd81dcc0013358a02d2", func := "bitext/bitextlaw17.PenaltyApplies", spec := "penaltyApplies", inPlace := ["math/bits.Sub64"], apart := false, narrowed := true }
def PenaltyAppliesUptoSaid : Prop := penaltyAppliesUptoRow.holds Try.pinned (OpenSpec.upto penaltyAppliesSpec)

/-- 'bitextlaw17.PenaltyAges', WHERE WHAT IT READS IS OF BULK AT MOST 1048576: true; the input reads as it did. -/
def penaltyAgesUptoRow : OpenClaim := { program := "ytakofkfemgoloaa", sum := "92a122c7c5a6d348394fe397ae7cbf9b30ce233c29449bd81dcc0013358a02d2", func := "bitext/bitextlaw17.PenaltyAges", spec := "penaltyAges", inPlace := ["math/bits.Sub64"], apart := false, narrowed := true }
def PenaltyAgesUptoSaid : Prop := penaltyAgesUptoRow.holds Try.pinned (OpenSpec.upto penaltyAgesSpec)

/-- 'bitextlaw17.PenaltyAdds', WHERE WHAT IT READS IS OF BULK AT MOST 1048576: true; the input reads as it did. -/
def penaltyAddsUptoRow : OpenClaim := { program := "ytakofkfemgoloaa", sum := "92a122c7c5a6d348394fe397ae7cbf9b30ce233c29449bd81dcc0013358a02d2", func := "bitext/bitextlaw17.PenaltyAdds", spec := "penaltyAdds", inPlace := ["math/bits.Sub64"], apart := false, narrowed := true }
def PenaltyAddsUptoSaid : Prop := penaltyAddsUptoRow.holds Try.pinned (OpenSpec.upto penaltyAddsSpec)

/-- 'bitextlaw17.PenaltyMatters', WHERE WHAT IT READS IS OF BULK AT MOST 1048576: true; the input reads as it did. -/
def penaltyMattersUptoRow : OpenClaim := { program := "ytakofkfemgoloaa", sum := "92a122c7c5a6d348394fe397ae7cbf9b30ce233c29449bd81dcc0013358a02d2", func := "bitext/bitextlaw17.PenaltyMatters", spec := "penaltyMatters", inPlace := ["math/bits.Sub64"], apart := false, narrowed := true }
def PenaltyMattersUptoSaid : Prop := penaltyMattersUptoRow.holds Try.pinned (OpenSpec.upto penaltyMattersSpec)

/-- 'bitextlaw17.PenaltyValidates', WHERE WHAT IT READS IS OF BULK AT MOST 1048576: true; the input reads as it did. -/
def penaltyValidatesUptoRow : OpenClaim := { program := "ytakofkfemgoloaa", sum := "92a122c7c5a6d348394fe397ae7cbf9b30ce233c29449bd81dcc0013358a02d2", func := "bitext/bitextlaw17.PenaltyValidates", spec := "penaltyValidates", inPlace := ["math/bits.Sub64"], apart := false, narrowed := true }
def PenaltyValidatesUptoSaid : Prop := penaltyValidatesUptoRow.holds Try.pinned (OpenSpec.upto penaltyValidatesSpec)

end Rows
end Go.Proofs.Ytakofkfemgoloaa
