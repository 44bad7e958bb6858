/-
  No cell of these rows narrows 'for every input' (looked for: loops, veiled, ifaces, maps, wideKeys, modest, calm, conditions, laid).
  DERIVED. THE GIVEN ROWS OF THIS SEAT. 6 by the template 'for every input the law returns true; each argument reads behind the call as it read before'; 0 by the template 'total and deterministic' (their statements: YtdgpppkmlmbjoaaTotals.lean).
  GIVEN WITH THE SEED: the statements are not yours to turn. If you find one false, say at which input.
  Laid BY PROGRAM, IN A SANDBOX (cutbox-rows.mjs): the forced cells as the released guide's own fill.sh prints them over the translation a24bdf4ff35b9bfc… (all of the seat's roots in one cut). By AI agents, Wed Nov 11 2026. No macro, syntax, notation, axiom, sorry.
-/
import Derived.Test.YtdgpppkmlmbjoaaChecked
import GoSem.Claim
import GoSem.ClaimJoined
import GoSem.ClaimMapViews
import Derived.JoinedTies
import Derived.KernelRfl
namespace Go.Proofs.Ytdgpppkmlmbjoaa
/- THE CELL 'sum', in the pinned program and in every row, IS THE sha256 OF THE DUMP (.gsa) THAT YtdgpppkmlmbjoaaProg.lean LOADS. Nothing in Lean hashes anything: it is a label: what it is worth is what the hold of that sum in a sandbox is worth. -/
noncomputable def Try.pinned : Pinned := { name := "ytdgpppkmlmbjoaa", sum := "a24bdf4ff35b9bfcdf132a84eed56089c7edf7d0b4cc004ecb8d91340cfb068e", checked := Try.checked }
namespace Rows
def none {H : Type} : Left H := { results := [], args := [] }

/-- 'bitextlaw30.HistoryLimits': WHATEVER THE INPUT: true; the input reads as it did. -/
def historyLimitsSpec : ChangeSpec := { name := "historyLimits", fn := fun _ => fun
  | [d1, d2] => { results := [.lit (.bool true)], args := [d1, d2] }
  | _ => none }
def historyLimitsRow : OpenClaim := { program := "ytdgpppkmlmbjoaa", sum := "a24bdf4ff35b9bfcdf132a84eed56089c7edf7d0b4cc004ecb8d91340cfb068e", func := "bitext/bitextlaw30.HistoryLimits", spec := "historyLimits", unfollowed := true, recurses := true, apart := false }
def HistoryLimitsSaid : Prop := historyLimitsRow.holds Try.pinned (OpenSpec.ofChange historyLimitsSpec)

/-- ITS FALSE NEIGHBOUR: 'it returns false'. Refute it at one input. -/
def historyLimitsWrong : ChangeSpec := { name := "historyLimits", fn := fun _ => fun
  | [d1, d2] => { results := [.lit (.bool false)], args := [d1, d2] }
  | _ => none }
def HistoryLimitsWrongFalsely : Prop := historyLimitsRow.holds Try.pinned (OpenSpec.ofChange historyLimitsWrong)

/-- 'bitextlaw30.HistoryRecords': WHATEVER THE INPUT: true; the input reads as it did. -/
def historyRecordsSpec : ChangeSpec := { name := "historyRecords", fn := fun _ => fun
  | [d1, d2, d3] => { results := [.lit (.bool true)], args := [d1, d2, d3] }
  | _ => none }
def historyRecordsRow : OpenClaim := { program := "ytdgpppkmlmbjoaa", sum := "a24bdf4ff35b9bfcdf132a84eed56089c7edf7d0b4cc004ecb8d91340cfb068e", func := "bitext/bitextlaw30.HistoryRecords", spec := "historyRecords", unfollowed := true, recurses := true, apart := false }
def HistoryRecordsSaid : Prop := historyRecordsRow.holds Try.pinned (OpenSpec.ofChange historyRecordsSpec)

/-- ITS FALSE NEIGHBOUR: 'it returns false'. Refute it at one input. -/
def historyRecordsWrong : ChangeSpec := { name := "historyRecords", fn := fun _ => fun
  | [d1, d2, d3] => { results := [.lit (.bool false)], args := [d1, d2, d3] }
  | _ => none }
def HistoryRecordsWrongFalsely : Prop := historyRecordsRow.holds Try.pinned (OpenSpec.ofChange historyRecordsWrong)

/-- 'bitextlaw30.HistoryLists': WHATEVER THE INPUT: true; the input reads as it did. -/
def historyListsSpec : ChangeSpec := { name := "historyLists", fn := fun _ => fun
  | [d1, d2, d3, d4] => { results := [.lit (.bool true)], args := [d1, d2, d3, d4] }
  | _ => none }
def historyListsRow : OpenClaim := { program := "ytdgpppkmlmbjoaa", sum := "a24bdf4ff35b9bfcdf132a84eed56089c7edf7d0b4cc004ecb8d91340cfb068e", func := "bitext/bitextlaw30.HistoryLists", spec := "historyLists", unfollowed := true, recurses := true, apart := false }
def HistoryListsSaid : Prop := historyListsRow.holds Try.pinned (OpenSpec.ofChange historyListsSpec)

/-- ITS FALSE NEIGHBOUR: 'it returns false'. Refute it at one input. -/
def historyListsWrong : ChangeSpec := { name := "historyLists", fn := fun _ => fun
  | [d1, d2, d3, d4] => { results := [.lit (.bool false)], args := [d1, d2, d3, d4] }
  | _ => none }
def HistoryListsWrongFalsely : Prop := historyListsRow.holds Try.pinned (OpenSpec.ofChange historyListsWrong)

/-- 'bitextlaw30.HistoryUndoes': WHATEVER THE INPUT: true; the input reads as it did. -/
def historyUndoesSpec : ChangeSpec := { name := "historyUndoes", fn := fun _ => fun
  | [d1, d2, d3] => { results := [.lit (.bool true)], args := [d1, d2, d3] }
  | _ => none }
def historyUndoesRow : OpenClaim := { program := "ytdgpppkmlmbjoaa", sum := "a24bdf4ff35b9bfcdf132a84eed56089c7edf7d0b4cc004ecb8d91340cfb068e", func := "bitext/bitextlaw30.HistoryUndoes", spec := "historyUndoes", unfollowed := true, recurses := true, apart := false }
def HistoryUndoesSaid : Prop := historyUndoesRow.holds Try.pinned (OpenSpec.ofChange historyUndoesSpec)

/-- ITS FALSE NEIGHBOUR: 'it returns false'. Refute it at one input. -/
def historyUndoesWrong : ChangeSpec := { name := "historyUndoes", fn := fun _ => fun
  | [d1, d2, d3] => { results := [.lit (.bool false)], args := [d1, d2, d3] }
  | _ => none }
def HistoryUndoesWrongFalsely : Prop := historyUndoesRow.holds Try.pinned (OpenSpec.ofChange historyUndoesWrong)

/-- 'bitextlaw30.HistoryInverts': WHATEVER THE INPUT: true; the input reads as it did. -/
def historyInvertsSpec : ChangeSpec := { name := "historyInverts", fn := fun _ => fun
  | [d1, d2] => { results := [.lit (.bool true)], args := [d1, d2] }
  | _ => none }
def historyInvertsRow : OpenClaim := { program := "ytdgpppkmlmbjoaa", sum := "a24bdf4ff35b9bfcdf132a84eed56089c7edf7d0b4cc004ecb8d91340cfb068e", func := "bitext/bitextlaw30.HistoryInverts", spec := "historyInverts", unfollowed := true, recurses := true, apart := false }
def HistoryInvertsSaid : Prop := historyInvertsRow.holds Try.pinned (OpenSpec.ofChange historyInvertsSpec)

/-- ITS FALSE NEIGHBOUR: 'it returns false'. Refute it at one input. -/
def historyInvertsWrong : ChangeSpec := { name := "historyInverts", fn := fun _ => fun
  | [d1, d2] => { results := [.lit (.bool false)], args := [d1, d2] }
  | _ => none }
def HistoryInvertsWrongFalsely : Prop := historyInvertsRow.holds Try.pinned (OpenSpec.ofChange historyInvertsWrong)

/-- 'bitextlaw30.HistoryApart': WHATEVER THE INPUT: true; the input reads as it did. -/
def historyApartSpec : ChangeSpec := { name := "historyApart", fn := fun _ => fun
  | [d] => { results := [.lit (.bool true)], args := [d] }
  | _ => none }
def historyApartRow : OpenClaim := { program := "ytdgpppkmlmbjoaa", sum := "a24bdf4ff35b9bfcdf132a84eed56089c7edf7d0b4cc004ecb8d91340cfb068e", func := "bitext/bitextlaw30.HistoryApart", spec := "historyApart", unfollowed := true, recurses := true, apart := false }
def HistoryApartSaid : Prop := historyApartRow.holds Try.pinned (OpenSpec.ofChange historyApartSpec)

/-- ITS FALSE NEIGHBOUR: 'it returns false'. Refute it at one input. -/
def historyApartWrong : ChangeSpec := { name := "historyApart", fn := fun _ => fun
  | [d] => { results := [.lit (.bool false)], args := [d] }
  | _ => none }
def HistoryApartWrongFalsely : Prop := historyApartRow.holds Try.pinned (OpenSpec.ofChange historyApartWrong)

/- THE SECOND FORM. 'bulk': how many values and letters a reading holds, each counted each time it is reached (what is shared counts as often as it is met; a slice's spare places count too). A statement '..UptoSaid' is the law's where the arguments, and the package variables that the reading takes, are together of bulk at most 1048576: NARROWER than '..Said'. Prove '..Said' where nothing that the law and all that it calls make is longer than what came in: it says more and counts as full. Else prove '..UptoSaid'. A law counts once. -/
mutual
def uptoBulk {H : Type} : DataW H → Nat
  | .lit (.string bytes) => bytes.length + 1
  | .lit _ => 1
  | .nil => 1
  | .ptr d => uptoBulk d + 1
  | .slice elems spare => uptoBulkAll elems + uptoBulkAll spare + 1
  | .agg parts => uptoBulkAll parts + 1
  | .iface _ d => uptoBulk d + 1
  | .map entries => uptoBulkEntries entries + 1
  | .held _ => 1
def uptoBulkAll {H : Type} : List (DataW H) → Nat
  | [] => 0
  | d :: r => uptoBulk d + uptoBulkAll r
def uptoBulkEntries {H : Type} : List (Lit × DataW H) → Nat
  | [] => 0
  | x :: r => uptoBulkEntry x + uptoBulkEntries r
def uptoBulkEntry {H : Type} : Lit × DataW H → Nat
  | (.string bytes, d) => bytes.length + uptoBulk d + 1
  | (_, d) => uptoBulk d + 1
 end
def uptoSmall : (H : Type) → List (DataW H) → Bool := fun _ ds => decide (uptoBulkAll ds ≤ 1048576)
def OpenSpec.upto (s : _root_.Go.ChangeSpec) : _root_.Go.OpenSpec := { _root_.Go.OpenSpec.ofChange s with cond := some uptoSmall }

/-- 'bitextlaw30.HistoryLimits', WHERE WHAT IT READS IS OF BULK AT MOST 1048576: true; the input reads as it did. -/
def historyLimitsUptoRow : OpenClaim := { program := "ytdgpppkmlmbjoaa", sum := "a24bdf4ff35b9bfcdf132a84eed56089c7edf7d0b4cc004ecb8d91340cfb068e", func := "bitext/bitextlaw30.HistoryLimits", spec := "historyLimits", unfollowed := true, recurses := true, apart := false, narrowed := true }
def HistoryLimitsUptoSaid : Prop := historyLimitsUptoRow.holds Try.pinned (OpenSpec.upto historyLimitsSpec)

/-- 'bitextlaw30.HistoryRecords', WHERE WHAT IT READS IS OF BULK AT MOST 1048576: true; the input reads as it did. -/
def historyRecordsUptoRow : OpenClaim := { program := "ytdgpppkmlmbjoaa", sum := "a24bdf4ff35b9bfcdf132a84eed56089c7edf7d0b4cc004ecb8d91340cfb068e", func := "bitext/bitextlaw30.HistoryRecords", spec := "historyRecords", unfollowed := true, recurses := true, apart := false, narrowed := true }
def HistoryRecordsUptoSaid : Prop := historyRecordsUptoRow.holds Try.pinned (OpenSpec.upto historyRecordsSpec)

/-- 'bitextlaw30.HistoryLists', WHERE WHAT IT READS IS OF BULK AT MOST 1048576: true; the input reads as it did. -/
def historyListsUptoRow : OpenClaim := { program := "ytdgpppkmlmbjoaa", sum := "a24bdf4ff35b9bfcdf132a84eed56089c7edf7d0b4cc004ecb8d91340cfb068e", func := "bitext/bitextlaw30.HistoryLists", spec := "historyLists", unfollowed := true, recurses := true, apart := false, narrowed := true }
def HistoryListsUptoSaid : Prop := historyListsUptoRow.holds Try.pinned (OpenSpec.upto historyListsSpec)

/-- 'bitextlaw30.HistoryUndoes', WHERE WHAT IT READS IS OF BULK AT MOST 1048576: true; the input reads as it did. -/
def historyUndoesUptoRow : OpenClaim := { program := "ytdgpppkmlmbjoaa", sum := "a24bdf4ff35b9bfcdf132a84eed56089c7edf7d0b4cc004ecb8d91340cfb068e", func := "bitext/bitextlaw30.HistoryUndoes", spec := "historyUndoes", unfollowed := true, recurses := true, apart := false, narrowed := true }
def HistoryUndoesUptoSaid : Prop := historyUndoesUptoRow.holds Try.pinned (OpenSpec.upto historyUndoesSpec)

/-- 'bitextlaw30.HistoryInverts', WHERE WHAT IT READS IS OF BULK AT MOST 1048576: true; the input reads as it did. -/
def historyInvertsUptoRow : OpenClaim := { program := "ytdgpppkmlmbjoaa", sum := "a24bdf4ff35b9bfcdf132a84eed56089c7edf7d0b4cc004ecb8d91340cfb068e", func := "bitext/bitextlaw30.HistoryInverts", spec := "historyInverts", unfollowed := true, recurses := true, apart := false, narrowed := true }
def HistoryInvertsUptoSaid : Prop := historyInvertsUptoRow.holds Try.pinned (OpenSpec.upto historyInvertsSpec)

/-- 'bitextlaw30.HistoryApart', WHERE WHAT IT READS IS OF BULK AT MOST 1048576: true; the input reads as it did. -/
def historyApartUptoRow : OpenClaim := { program := "ytdgpppkmlmbjoaa", sum := "a24bdf4ff35b9bfcdf132a84eed56089c7edf7d0b4cc004ecb8d91340cfb068e", func := "bitext/bitextlaw30.HistoryApart", spec := "historyApart", unfollowed := true, recurses := true, apart := false, narrowed := true }
def HistoryApartUptoSaid : Prop := historyApartUptoRow.holds Try.pinned (OpenSpec.upto historyApartSpec)

end Rows
end Go.Proofs.Ytdgpppkmlmbjoaa
