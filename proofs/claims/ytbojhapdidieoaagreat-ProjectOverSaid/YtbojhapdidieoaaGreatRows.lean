/-
  No cell of these rows narrows 'for every input' (looked for: loops, veiled, ifaces, maps, wideKeys, modest, calm, conditions, laid).
  DERIVED. THE GIVEN ROWS OF THIS SEAT. 4 by the template 'for every input the law returns true; each argument reads behind the call as it read before'; 0 by the template 'total and deterministic' (their statements: YtbojhapdidieoaaGreatTotals.lean).
  GIVEN WITH THE SEED: the statements are not yours to turn. If you find one false, say at which input.
  Laid BY PROGRAM, IN A SANDBOX (cutbox-rows.mjs): the forced cells as the released guide's own fill.sh prints them over the translation 43307624cb64f379… (all of the seat's roots in one cut). By AI agents, Wed Nov 11 2026. No macro, syntax, notation, axiom, sorry.
-/
import Derived.Test.YtbojhapdidieoaaGreatChecked
import GoSem.Claim
import GoSem.ClaimJoined
import GoSem.ClaimMapViews
import Derived.JoinedTies
import Derived.KernelRfl
namespace Go.Proofs.YtbojhapdidieoaaGreat
/- THE CELL 'sum', in the pinned program and in every row, IS THE sha256 OF THE DUMP (.gsa) THAT YtbojhapdidieoaaGreatProg.lean LOADS. Nothing in Lean hashes anything: it is a label: what it is worth is what the hold of that sum in a sandbox is worth. -/
noncomputable def Tryz.pinned : Pinned := { name := "ytbojhapdidieoaagreat", sum := "43307624cb64f379d1cea93528c3b6d3b1d454aab11cc9538f460a24db635613", checked := Tryz.checked }
namespace Rows
def none {H : Type} : Left H := { results := [], args := [] }

/-- 'punnetlaw18.PathWays': WHATEVER THE INPUT: true; the input reads as it did. -/
def pathWaysSpec : ChangeSpec := { name := "pathWays", fn := fun _ => fun
  | [d1, d2, d3] => { results := [.lit (.bool true)], args := [d1, d2, d3] }
  | _ => none }
def pathWaysRow : OpenClaim := { program := "ytbojhapdidieoaagreat", sum := "43307624cb64f379d1cea93528c3b6d3b1d454aab11cc9538f460a24db635613", func := "punnet/punnetlaw18.PathWays", spec := "pathWays", plainKeys := false, apart := false }
def PathWaysSaid : Prop := pathWaysRow.holds Tryz.pinned (OpenSpec.ofChange pathWaysSpec)

/-- ITS FALSE NEIGHBOUR: 'it returns false'. Refute it at one input. -/
def pathWaysWrong : ChangeSpec := { name := "pathWays", fn := fun _ => fun
  | [d1, d2, d3] => { results := [.lit (.bool false)], args := [d1, d2, d3] }
  | _ => none }
def PathWaysWrongFalsely : Prop := pathWaysRow.holds Tryz.pinned (OpenSpec.ofChange pathWaysWrong)

/-- 'punnetlaw24.ProjectOver': WHATEVER THE INPUT: true; the input reads as it did. -/
def projectOverSpec : ChangeSpec := { name := "projectOver", fn := fun _ => fun
  | [d1, d2, d3] => { results := [.lit (.bool true)], args := [d1, d2, d3] }
  | _ => none }
def projectOverRow : OpenClaim := { program := "ytbojhapdidieoaagreat", sum := "43307624cb64f379d1cea93528c3b6d3b1d454aab11cc9538f460a24db635613", func := "punnet/punnetlaw24.ProjectOver", spec := "projectOver", inPlace := ["math.archTrunc", "math.Float64bits", "math.Float64frombits"], unfollowed := true, recurses := true, plainKeys := false, apart := false }
def ProjectOverSaid : Prop := projectOverRow.holds Tryz.pinned (OpenSpec.ofChange projectOverSpec)

/-- ITS FALSE NEIGHBOUR: 'it returns false'. Refute it at one input. -/
def projectOverWrong : ChangeSpec := { name := "projectOver", fn := fun _ => fun
  | [d1, d2, d3] => { results := [.lit (.bool false)], args := [d1, d2, d3] }
  | _ => none }
def ProjectOverWrongFalsely : Prop := projectOverRow.holds Tryz.pinned (OpenSpec.ofChange projectOverWrong)

/-- 'punnetlaw19.CarryPaths': WHATEVER THE INPUT: true; the input reads as it did. -/
def carryPathsSpec : ChangeSpec := { name := "carryPaths", fn := fun _ => fun
  | [d1, d2, d3, d4] => { results := [.lit (.bool true)], args := [d1, d2, d3, d4] }
  | _ => none }
def carryPathsRow : OpenClaim := { program := "ytbojhapdidieoaagreat", sum := "43307624cb64f379d1cea93528c3b6d3b1d454aab11cc9538f460a24db635613", func := "punnet/punnetlaw19.CarryPaths", spec := "carryPaths", recurses := true, plainKeys := false, apart := false }
def CarryPathsSaid : Prop := carryPathsRow.holds Tryz.pinned (OpenSpec.ofChange carryPathsSpec)

/-- ITS FALSE NEIGHBOUR: 'it returns false'. Refute it at one input. -/
def carryPathsWrong : ChangeSpec := { name := "carryPaths", fn := fun _ => fun
  | [d1, d2, d3, d4] => { results := [.lit (.bool false)], args := [d1, d2, d3, d4] }
  | _ => none }
def CarryPathsWrongFalsely : Prop := carryPathsRow.holds Tryz.pinned (OpenSpec.ofChange carryPathsWrong)

/-- 'punnetlaw24.ProjectPaths': WHATEVER THE INPUT: true; the input reads as it did. -/
def projectPathsSpec : ChangeSpec := { name := "projectPaths", fn := fun _ => fun
  | [d1, d2, d3, d4, d5] => { results := [.lit (.bool true)], args := [d1, d2, d3, d4, d5] }
  | _ => none }
def projectPathsRow : OpenClaim := { program := "ytbojhapdidieoaagreat", sum := "43307624cb64f379d1cea93528c3b6d3b1d454aab11cc9538f460a24db635613", func := "punnet/punnetlaw24.ProjectPaths", spec := "projectPaths", inPlace := ["math.archTrunc", "math.Float64bits", "math.Float64frombits"], unfollowed := true, recurses := true, plainKeys := false, apart := false }
def ProjectPathsSaid : Prop := projectPathsRow.holds Tryz.pinned (OpenSpec.ofChange projectPathsSpec)

/-- ITS FALSE NEIGHBOUR: 'it returns false'. Refute it at one input. -/
def projectPathsWrong : ChangeSpec := { name := "projectPaths", fn := fun _ => fun
  | [d1, d2, d3, d4, d5] => { results := [.lit (.bool false)], args := [d1, d2, d3, d4, d5] }
  | _ => none }
def ProjectPathsWrongFalsely : Prop := projectPathsRow.holds Tryz.pinned (OpenSpec.ofChange projectPathsWrong)

/- THE SECOND FORM. 'bulk': how many values and letters a reading holds, each counted each time it is reached (what is shared counts as often as it is met; a slice's spare places count too). A statement '..UptoSaid' is the law's where the arguments, and the package variables that the reading takes, are together of bulk at most 1048576: NARROWER than '..Said'. Prove '..Said' where nothing that the law and all that it calls make is longer than what came in: it says more and counts as full. Else prove '..UptoSaid'. A law counts once. -/
mutual
def uptoBulk {H : Type} : DataW H → Nat
  | .lit (.string bytes) => bytes.length + 1
  | .lit _ => 1
  | .nil => 1
  | .ptr d => uptoBulk d + 1
  | .slice elems spare => uptoBulkAll elems + uptoBulkAll spare + 1
  | .agg parts => uptoBulkAll parts + 1
  | .iface _ d => uptoBulk d + 1
  | .map entries => uptoBulkEntries entries + 1
  | .held _ => 1
def uptoBulkAll {H : Type} : List (DataW H) → Nat
  | [] => 0
  | d :: r => uptoBulk d + uptoBulkAll r
def uptoBulkEntries {H : Type} : List (Lit × DataW H) → Nat
  | [] => 0
  | x :: r => uptoBulkEntry x + uptoBulkEntries r
def uptoBulkEntry {H : Type} : Lit × DataW H → Nat
  | (.string bytes, d) => bytes.length + uptoBulk d + 1
  | (_, d) => uptoBulk d + 1
 end
def uptoSmall : (H : Type) → List (DataW H) → Bool := fun _ ds => decide (uptoBulkAll ds ≤ 1048576)
def OpenSpec.upto (s : _root_.Go.ChangeSpec) : _root_.Go.OpenSpec := { _root_.Go.OpenSpec.ofChange s with cond := some uptoSmall }

/-- 'punnetlaw18.PathWays', WHERE WHAT IT READS IS OF BULK AT MOST 1048576: true; the input reads as it did. -/
def pathWaysUptoRow : OpenClaim := { program := "ytbojhapdidieoaagreat", sum := "43307624cb64f379d1cea93528c3b6d3b1d454aab11cc9538f460a24db635613", func := "punnet/punnetlaw18.PathWays", spec := "pathWays", plainKeys := false, apart := false, narrowed := true }
def PathWaysUptoSaid : Prop := pathWaysUptoRow.holds Tryz.pinned (OpenSpec.upto pathWaysSpec)

/-- 'punnetlaw24.ProjectOver', WHERE WHAT IT READS IS OF BULK AT MOST 1048576: true; the input reads as it did. -/
def projectOverUptoRow : OpenClaim := { program := "ytbojhapdidieoaagreat", sum := "43307624cb64f379d1cea93528c3b6d3b1d454aab11cc9538f460a24db635613", func := "punnet/punnetlaw24.ProjectOver", spec := "projectOver", inPlace := ["math.archTrunc", "math.Float64bits", "math.Float64frombits"], unfollowed := true, recurses := true, plainKeys := false, apart := false, narrowed := true }
def ProjectOverUptoSaid : Prop := projectOverUptoRow.holds Tryz.pinned (OpenSpec.upto projectOverSpec)

/-- 'punnetlaw19.CarryPaths', WHERE WHAT IT READS IS OF BULK AT MOST 1048576: true; the input reads as it did. -/
def carryPathsUptoRow : OpenClaim := { program := "ytbojhapdidieoaagreat", sum := "43307624cb64f379d1cea93528c3b6d3b1d454aab11cc9538f460a24db635613", func := "punnet/punnetlaw19.CarryPaths", spec := "carryPaths", recurses := true, plainKeys := false, apart := false, narrowed := true }
def CarryPathsUptoSaid : Prop := carryPathsUptoRow.holds Tryz.pinned (OpenSpec.upto carryPathsSpec)

/-- 'punnetlaw24.ProjectPaths', WHERE WHAT IT READS IS OF BULK AT MOST 1048576: true; the input reads as it did. -/
def projectPathsUptoRow : OpenClaim := { program := "ytbojhapdidieoaagreat", sum := "43307624cb64f379d1cea93528c3b6d3b1d454aab11cc9538f460a24db635613", func := "punnet/punnetlaw24.ProjectPaths", spec := "projectPaths", inPlace := ["math.archTrunc", "math.Float64bits", "math.Float64frombits"], unfollowed := true, recurses := true, plainKeys := false, apart := false, narrowed := true }
def ProjectPathsUptoSaid : Prop := projectPathsUptoRow.holds Tryz.pinned (OpenSpec.upto projectPathsSpec)

end Rows
end Go.Proofs.YtbojhapdidieoaaGreat
