/-
  No cell of these rows narrows 'for every input' (looked for: loops, veiled, ifaces, maps, wideKeys, modest, calm, conditions, laid).
  DERIVED. THE GIVEN ROWS OF THIS SEAT. 6 by the template 'for every input the law returns true; each argument reads behind the call as it read before'; 0 by the template 'total and deterministic' (their statements: YtmnibpgmcgdfpaaTotals.lean).
  GIVEN WITH THE SEED: the statements are not yours to turn. If you find one false, say at which input.
  Laid BY PROGRAM, IN A SANDBOX (cutbox-rows.mjs): the forced cells as the released guide's own fill.sh prints them over the translation 301b94c73f0bdf0c… (all of the seat's roots in one cut). By AI agents, Wed Nov 11 2026. No macro, syntax, notation, axiom, sorry.
-/
import Derived.Test.YtmnibpgmcgdfpaaChecked
import GoSem.Claim
import GoSem.ClaimJoined
import GoSem.ClaimMapViews
import Derived.JoinedTies
import Derived.KernelRfl
namespace Go.Proofs.Ytmnibpgmcgdfpaa
/- THE CELL 'sum', in the pinned program and in every row, IS THE sha256 OF THE DUMP (.gsa) THAT YtmnibpgmcgdfpaaProg.lean LOADS. Nothing in Lean hashes anything: it is a label: what it is worth is what the hold of that sum in a sandbox is worth. -/
noncomputable def Try.pinned : Pinned := { name := "ytmnibpgmcgdfpaa", sum := "301b94c73f0bdf0c943506e8e4515439b645f7308d645bb567749fd3a5c6287c", checked := Try.checked }
namespace Rows
def none {H : Type} : Left H := { results := [], args := [] }

/-- 'punnetlaw37.DeltaBacks': WHATEVER THE INPUT: true; the input reads as it did. -/
def deltaBacksSpec : ChangeSpec := { name := "deltaBacks", fn := fun _ => fun
  | [d1, d2, d3] => { results := [.lit (.bool true)], args := [d1, d2, d3] }
  | _ => none }
def deltaBacksRow : OpenClaim := { program := "ytmnibpgmcgdfpaa", sum := "301b94c73f0bdf0c943506e8e4515439b645f7308d645bb567749fd3a5c6287c", func := "punnet/punnetlaw37.DeltaBacks", spec := "deltaBacks", unfollowed := true, recurses := true, apart := false }
def DeltaBacksSaid : Prop := deltaBacksRow.holds Try.pinned (OpenSpec.ofChange deltaBacksSpec)

/-- ITS FALSE NEIGHBOUR: 'it returns false'. Refute it at one input. -/
def deltaBacksWrong : ChangeSpec := { name := "deltaBacks", fn := fun _ => fun
  | [d1, d2, d3] => { results := [.lit (.bool false)], args := [d1, d2, d3] }
  | _ => none }
def DeltaBacksWrongFalsely : Prop := deltaBacksRow.holds Try.pinned (OpenSpec.ofChange deltaBacksWrong)

/-- 'punnetlaw37.DeltaDiffs': WHATEVER THE INPUT: true; the input reads as it did. -/
def deltaDiffsSpec : ChangeSpec := { name := "deltaDiffs", fn := fun _ => fun
  | [d1, d2, d3] => { results := [.lit (.bool true)], args := [d1, d2, d3] }
  | _ => none }
def deltaDiffsRow : OpenClaim := { program := "ytmnibpgmcgdfpaa", sum := "301b94c73f0bdf0c943506e8e4515439b645f7308d645bb567749fd3a5c6287c", func := "punnet/punnetlaw37.DeltaDiffs", spec := "deltaDiffs", unfollowed := true, recurses := true, apart := false }
def DeltaDiffsSaid : Prop := deltaDiffsRow.holds Try.pinned (OpenSpec.ofChange deltaDiffsSpec)

/-- ITS FALSE NEIGHBOUR: 'it returns false'. Refute it at one input. -/
def deltaDiffsWrong : ChangeSpec := { name := "deltaDiffs", fn := fun _ => fun
  | [d1, d2, d3] => { results := [.lit (.bool false)], args := [d1, d2, d3] }
  | _ => none }
def DeltaDiffsWrongFalsely : Prop := deltaDiffsRow.holds Try.pinned (OpenSpec.ofChange deltaDiffsWrong)

/-- 'punnetlaw23.DocRight': WHATEVER THE INPUT: true; the input reads as it did. -/
def docRightSpec : ChangeSpec := { name := "docRight", fn := fun _ => fun
  | [d1, d2, d3] => { results := [.lit (.bool true)], args := [d1, d2, d3] }
  | _ => none }
def docRightRow : OpenClaim := { program := "ytmnibpgmcgdfpaa", sum := "301b94c73f0bdf0c943506e8e4515439b645f7308d645bb567749fd3a5c6287c", func := "punnet/punnetlaw23.DocRight", spec := "docRight", inPlace := ["internal/abi.NoEscape", "internal/bytealg.MakeNoZero"], unfollowed := true, recurses := true, apart := false }
def DocRightSaid : Prop := docRightRow.holds Try.pinned (OpenSpec.ofChange docRightSpec)

/-- ITS FALSE NEIGHBOUR: 'it returns false'. Refute it at one input. -/
def docRightWrong : ChangeSpec := { name := "docRight", fn := fun _ => fun
  | [d1, d2, d3] => { results := [.lit (.bool false)], args := [d1, d2, d3] }
  | _ => none }
def DocRightWrongFalsely : Prop := docRightRow.holds Try.pinned (OpenSpec.ofChange docRightWrong)

/-- 'punnetlaw23.DocSets': WHATEVER THE INPUT: true; the input reads as it did. -/
def docSetsSpec : ChangeSpec := { name := "docSets", fn := fun _ => fun
  | [d1, d2, d3, d4, d5] => { results := [.lit (.bool true)], args := [d1, d2, d3, d4, d5] }
  | _ => none }
def docSetsRow : OpenClaim := { program := "ytmnibpgmcgdfpaa", sum := "301b94c73f0bdf0c943506e8e4515439b645f7308d645bb567749fd3a5c6287c", func := "punnet/punnetlaw23.DocSets", spec := "docSets", inPlace := ["internal/abi.NoEscape", "internal/bytealg.MakeNoZero", "slices.overlaps[punnet/api.Row]"], unfollowed := true, recurses := true, apart := false }
def DocSetsSaid : Prop := docSetsRow.holds Try.pinned (OpenSpec.ofChange docSetsSpec)

/-- ITS FALSE NEIGHBOUR: 'it returns false'. Refute it at one input. -/
def docSetsWrong : ChangeSpec := { name := "docSets", fn := fun _ => fun
  | [d1, d2, d3, d4, d5] => { results := [.lit (.bool false)], args := [d1, d2, d3, d4, d5] }
  | _ => none }
def DocSetsWrongFalsely : Prop := docSetsRow.holds Try.pinned (OpenSpec.ofChange docSetsWrong)

/-- 'punnetlaw37.DeltaApplies': WHATEVER THE INPUT: true; the input reads as it did. -/
def deltaAppliesSpec : ChangeSpec := { name := "deltaApplies", fn := fun _ => fun
  | [d1, d2, d3] => { results := [.lit (.bool true)], args := [d1, d2, d3] }
  | _ => none }
def deltaAppliesRow : OpenClaim := { program := "ytmnibpgmcgdfpaa", sum := "301b94c73f0bdf0c943506e8e4515439b645f7308d645bb567749fd3a5c6287c", func := "punnet/punnetlaw37.DeltaApplies", spec := "deltaApplies", inPlace := ["slices.overlaps[punnet/api.Row]"], unfollowed := true, recurses := true, apart := false }
def DeltaAppliesSaid : Prop := deltaAppliesRow.holds Try.pinned (OpenSpec.ofChange deltaAppliesSpec)

/-- ITS FALSE NEIGHBOUR: 'it returns false'. Refute it at one input. -/
def deltaAppliesWrong : ChangeSpec := { name := "deltaApplies", fn := fun _ => fun
  | [d1, d2, d3] => { results := [.lit (.bool false)], args := [d1, d2, d3] }
  | _ => none }
def DeltaAppliesWrongFalsely : Prop := deltaAppliesRow.holds Try.pinned (OpenSpec.ofChange deltaAppliesWrong)

/-- 'punnetlaw37.DeltaThere': WHATEVER THE INPUT: true; the input reads as it did. -/
def deltaThereSpec : ChangeSpec := { name := "deltaThere", fn := fun _ => fun
  | [d1, d2, d3] => { results := [.lit (.bool true)], args := [d1, d2, d3] }
  | _ => none }
def deltaThereRow : OpenClaim := { program := "ytmnibpgmcgdfpaa", sum := "301b94c73f0bdf0c943506e8e4515439b645f7308d645bb567749fd3a5c6287c", func := "punnet/punnetlaw37.DeltaThere", spec := "deltaThere", inPlace := ["slices.overlaps[punnet/api.Row]"], unfollowed := true, recurses := true, apart := false }
def DeltaThereSaid : Prop := deltaThereRow.holds Try.pinned (OpenSpec.ofChange deltaThereSpec)

/-- ITS FALSE NEIGHBOUR: 'it returns false'. Refute it at one input. -/
def deltaThereWrong : ChangeSpec := { name := "deltaThere", fn := fun _ => fun
  | [d1, d2, d3] => { results := [.lit (.bool false)], args := [d1, d2, d3] }
  | _ => none }
def DeltaThereWrongFalsely : Prop := deltaThereRow.holds Try.pinned (OpenSpec.ofChange deltaThereWrong)

/- THE SECOND FORM. 'bulk': how many values and letters a reading holds, each counted each time it is reached (what is shared counts as often as it is met; a slice's spare places count too). A statement '..UptoSaid' is the law's where the arguments, and the package variables that the reading takes, are together of bulk at most 1048576: NARROWER than '..Said'. Prove '..Said' where nothing that the law and all that it calls make is longer than what came in: it says more and counts as full. Else prove '..UptoSaid'. A law counts once. -/
mutual
def uptoBulk {H : Type} : DataW H → Nat
  | .lit (.string bytes) => bytes.length + 1
  | .lit _ => 1
  | .nil => 1
  | .ptr d => uptoBulk d + 1
  | .slice elems spare => uptoBulkAll elems + uptoBulkAll spare + 1
  | .agg parts => uptoBulkAll parts + 1
  | .iface _ d => uptoBulk d + 1
  | .map entries => uptoBulkEntries entries + 1
  | .held _ => 1
def uptoBulkAll {H : Type} : List (DataW H) → Nat
  | [] => 0
  | d :: r => uptoBulk d + uptoBulkAll r
def uptoBulkEntries {H : Type} : List (Lit × DataW H) → Nat
  | [] => 0
  | x :: r => uptoBulkEntry x + uptoBulkEntries r
def uptoBulkEntry {H : Type} : Lit × DataW H → Nat
  | (.string bytes, d) => bytes.length + uptoBulk d + 1
  | (_, d) => uptoBulk d + 1
 end
def uptoSmall : (H : Type) → List (DataW H) → Bool := fun _ ds => decide (uptoBulkAll ds ≤ 1048576)
def OpenSpec.upto (s : _root_.Go.ChangeSpec) : _root_.Go.OpenSpec := { _root_.Go.OpenSpec.ofChange s with cond := some uptoSmall }

/-- 'punnetlaw37.DeltaBacks', WHERE WHAT IT READS IS OF BULK AT MOST 1048576: true; the input reads as it did. -/
def deltaBacksUptoRow : OpenClaim := { program := "ytmnibpgmcgdfpaa", sum := "301b94c73f0bdf0c943506e8e4515439b645f7308d645bb567749fd3a5c6287c", func := "punnet/punnetlaw37.DeltaBacks", spec := "deltaBacks", unfollowed := true, recurses := true, apart := false, narrowed := true }
def DeltaBacksUptoSaid : Prop := deltaBacksUptoRow.holds Try.pinned (OpenSpec.upto deltaBacksSpec)

/-- 'punnetlaw37.DeltaDiffs', WHERE WHAT IT READS IS OF BULK AT MOST 1048576: true; the input reads as it did. -/
def deltaDiffsUptoRow : OpenClaim := { program := "ytmnibpgmcgdfpaa", sum := "301b94c73f0bdf0c943506e8e4515439b645f7308d645bb567749fd3a5c6287c", func := "punnet/punnetlaw37.DeltaDiffs", spec := "deltaDiffs", unfollowed := true, recurses := true, apart := false, narrowed := true }
def DeltaDiffsUptoSaid : Prop := deltaDiffsUptoRow.holds Try.pinned (OpenSpec.upto deltaDiffsSpec)

/-- 'punnetlaw23.DocRight', WHERE WHAT IT READS IS OF BULK AT MOST 1048576: true; the input reads as it did. -/
def docRightUptoRow : OpenClaim := { program := "ytmnibpgmcgdfpaa", sum := "301b94c73f0bdf0c943506e8e4515439b645f7308d645bb567749fd3a5c6287c", func := "punnet/punnetlaw23.DocRight", spec := "docRight", inPlace := ["internal/abi.NoEscape", "internal/bytealg.MakeNoZero"], unfollowed := true, recurses := true, apart := false, narrowed := true }
def DocRightUptoSaid : Prop := docRightUptoRow.holds Try.pinned (OpenSpec.upto docRightSpec)

/-- 'punnetlaw23.DocSets', WHERE WHAT IT READS IS OF BULK AT MOST 1048576: true; the input reads as it did. -/
def docSetsUptoRow : OpenClaim := { program := "ytmnibpgmcgdfpaa", sum := "301b94c73f0bdf0c943506e8e4515439b645f7308d645bb567749fd3a5c6287c", func := "punnet/punnetlaw23.DocSets", spec := "docSets", inPlace := ["internal/abi.NoEscape", "internal/bytealg.MakeNoZero", "slices.overlaps[punnet/api.Row]"], unfollowed := true, recurses := true, apart := false, narrowed := true }
def DocSetsUptoSaid : Prop := docSetsUptoRow.holds Try.pinned (OpenSpec.upto docSetsSpec)

/-- 'punnetlaw37.DeltaApplies', WHERE WHAT IT READS IS OF BULK AT MOST 1048576: true; the input reads as it did. -/
def deltaAppliesUptoRow : OpenClaim := { program := "ytmnibpgmcgdfpaa", sum := "301b94c73f0bdf0c943506e8e4515439b645f7308d645bb567749fd3a5c6287c", func := "punnet/punnetlaw37.DeltaApplies", spec := "deltaApplies", inPlace := ["slices.overlaps[punnet/api.Row]"], unfollowed := true, recurses := true, apart := false, narrowed := true }
def DeltaAppliesUptoSaid : Prop := deltaAppliesUptoRow.holds Try.pinned (OpenSpec.upto deltaAppliesSpec)

/-- 'punnetlaw37.DeltaThere', WHERE WHAT IT READS IS OF BULK AT MOST 1048576: true; the input reads as it did. -/
def deltaThereUptoRow : OpenClaim := { program := "ytmnibpgmcgdfpaa", sum := "301b94c73f0bdf0c943506e8e4515439b645f7308d645bb567749fd3a5c6287c", func := "punnet/punnetlaw37.DeltaThere", spec := "deltaThere", inPlace := ["slices.overlaps[punnet/api.Row]"], unfollowed := true, recurses := true, apart := false, narrowed := true }
def DeltaThereUptoSaid : Prop := deltaThereUptoRow.holds Try.pinned (OpenSpec.upto deltaThereSpec)

end Rows
end Go.Proofs.Ytmnibpgmcgdfpaa
