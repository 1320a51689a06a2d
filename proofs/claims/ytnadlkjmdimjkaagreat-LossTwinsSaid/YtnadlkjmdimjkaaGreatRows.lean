/-
  No cell of these rows narrows 'for every input' (looked for: loops, veiled, ifaces, maps, wideKeys, modest, calm, conditions, laid).
  DERIVED. THE GIVEN ROWS OF THIS SEAT. 8 by the template 'for every input the law returns true; each argument reads behind the call as it read before'; 0 by the template 'total and deterministic' (their statements: YtnadlkjmdimjkaaGreatTotals.lean).
  GIVEN WITH THE SEED: the statements are not yours to turn. If you find one false, say at which input.
  Laid BY PROGRAM, IN A SANDBOX (cutbox-rows.mjs): the forced cells as the released guide's own fill.sh prints them over the translation 17b69ce848df1c1c… (all of the seat's roots in one cut). By AI agents, Wed Nov 11 2026. No macro, syntax, notation, axiom, sorry.
-/
import Derived.Test.YtnadlkjmdimjkaaGreatChecked
import GoSem.Claim
import GoSem.ClaimJoined
import GoSem.ClaimMapViews
import Derived.JoinedTies
import Derived.KernelRfl
namespace Go.Proofs.YtnadlkjmdimjkaaGreat
/- THE CELL 'sum', in the pinned program and in every row, IS THE sha256 OF THE DUMP (.gsa) THAT YtnadlkjmdimjkaaGreatProg.lean LOADS. Nothing in Lean hashes anything: it is a label: what it is worth is what the hold of that sum in a sandbox is worth. -/
noncomputable def Tryz.pinned : Pinned := { name := "ytnadlkjmdimjkaagreat", sum := "17b69ce848df1c1c5313b6c8cbc73da7c58b22e6ba8ce91d2e72f0e2e3b32d8f", checked := Tryz.checked }
namespace Rows
def none {H : Type} : Left H := { results := [], args := [] }

/-- 'punnetlaw39.LossFates': WHATEVER THE INPUT: true; the input reads as it did. -/
def lossFatesSpec : ChangeSpec := { name := "lossFates", fn := fun _ => fun
  | [d1, d2, d3] => { results := [.lit (.bool true)], args := [d1, d2, d3] }
  | _ => none }
def lossFatesRow : OpenClaim := { program := "ytnadlkjmdimjkaagreat", sum := "17b69ce848df1c1c5313b6c8cbc73da7c58b22e6ba8ce91d2e72f0e2e3b32d8f", func := "punnet/punnetlaw39.LossFates", spec := "lossFates", recurses := true, plainKeys := false, apart := false }
def LossFatesSaid : Prop := lossFatesRow.holds Tryz.pinned (OpenSpec.ofChange lossFatesSpec)

/-- ITS FALSE NEIGHBOUR: 'it returns false'. Refute it at one input. -/
def lossFatesWrong : ChangeSpec := { name := "lossFates", fn := fun _ => fun
  | [d1, d2, d3] => { results := [.lit (.bool false)], args := [d1, d2, d3] }
  | _ => none }
def LossFatesWrongFalsely : Prop := lossFatesRow.holds Tryz.pinned (OpenSpec.ofChange lossFatesWrong)

/-- 'punnetlaw22.TransOwn': WHATEVER THE INPUT: true; the input reads as it did. -/
def transOwnSpec : ChangeSpec := { name := "transOwn", fn := fun _ => fun
  | [d1, d2] => { results := [.lit (.bool true)], args := [d1, d2] }
  | _ => none }
def transOwnRow : OpenClaim := { program := "ytnadlkjmdimjkaagreat", sum := "17b69ce848df1c1c5313b6c8cbc73da7c58b22e6ba8ce91d2e72f0e2e3b32d8f", func := "punnet/punnetlaw22.TransOwn", spec := "transOwn", inPlace := ["math.archTrunc", "math.Float64bits", "math.Float64frombits"], plainKeys := false, apart := false }
def TransOwnSaid : Prop := transOwnRow.holds Tryz.pinned (OpenSpec.ofChange transOwnSpec)

/-- ITS FALSE NEIGHBOUR: 'it returns false'. Refute it at one input. -/
def transOwnWrong : ChangeSpec := { name := "transOwn", fn := fun _ => fun
  | [d1, d2] => { results := [.lit (.bool false)], args := [d1, d2] }
  | _ => none }
def TransOwnWrongFalsely : Prop := transOwnRow.holds Tryz.pinned (OpenSpec.ofChange transOwnWrong)

/-- 'punnetlaw22.TransTo': WHATEVER THE INPUT: true; the input reads as it did. -/
def transToSpec : ChangeSpec := { name := "transTo", fn := fun _ => fun
  | [d1, d2, d3] => { results := [.lit (.bool true)], args := [d1, d2, d3] }
  | _ => none }
def transToRow : OpenClaim := { program := "ytnadlkjmdimjkaagreat", sum := "17b69ce848df1c1c5313b6c8cbc73da7c58b22e6ba8ce91d2e72f0e2e3b32d8f", func := "punnet/punnetlaw22.TransTo", spec := "transTo", inPlace := ["math.archTrunc", "math.Float64bits", "math.Float64frombits"], plainKeys := false, apart := false }
def TransToSaid : Prop := transToRow.holds Tryz.pinned (OpenSpec.ofChange transToSpec)

/-- ITS FALSE NEIGHBOUR: 'it returns false'. Refute it at one input. -/
def transToWrong : ChangeSpec := { name := "transTo", fn := fun _ => fun
  | [d1, d2, d3] => { results := [.lit (.bool false)], args := [d1, d2, d3] }
  | _ => none }
def TransToWrongFalsely : Prop := transToRow.holds Tryz.pinned (OpenSpec.ofChange transToWrong)

/-- 'punnetlaw22.TransWorth': WHATEVER THE INPUT: true; the input reads as it did. -/
def transWorthSpec : ChangeSpec := { name := "transWorth", fn := fun _ => fun
  | [d1, d2, d3] => { results := [.lit (.bool true)], args := [d1, d2, d3] }
  | _ => none }
def transWorthRow : OpenClaim := { program := "ytnadlkjmdimjkaagreat", sum := "17b69ce848df1c1c5313b6c8cbc73da7c58b22e6ba8ce91d2e72f0e2e3b32d8f", func := "punnet/punnetlaw22.TransWorth", spec := "transWorth", inPlace := ["math.archTrunc", "math.Float64bits", "math.Float64frombits"], plainKeys := false, apart := false }
def TransWorthSaid : Prop := transWorthRow.holds Tryz.pinned (OpenSpec.ofChange transWorthSpec)

/-- ITS FALSE NEIGHBOUR: 'it returns false'. Refute it at one input. -/
def transWorthWrong : ChangeSpec := { name := "transWorth", fn := fun _ => fun
  | [d1, d2, d3] => { results := [.lit (.bool false)], args := [d1, d2, d3] }
  | _ => none }
def TransWorthWrongFalsely : Prop := transWorthRow.holds Tryz.pinned (OpenSpec.ofChange transWorthWrong)

/-- 'punnetlaw24.ProjectPaths': WHATEVER THE INPUT: true; the input reads as it did. -/
def projectPathsSpec : ChangeSpec := { name := "projectPaths", fn := fun _ => fun
  | [d1, d2, d3, d4, d5] => { results := [.lit (.bool true)], args := [d1, d2, d3, d4, d5] }
  | _ => none }
def projectPathsRow : OpenClaim := { program := "ytnadlkjmdimjkaagreat", sum := "17b69ce848df1c1c5313b6c8cbc73da7c58b22e6ba8ce91d2e72f0e2e3b32d8f", func := "punnet/punnetlaw24.ProjectPaths", spec := "projectPaths", inPlace := ["math.archTrunc", "math.Float64bits", "math.Float64frombits"], unfollowed := true, recurses := true, plainKeys := false, apart := false }
def ProjectPathsSaid : Prop := projectPathsRow.holds Tryz.pinned (OpenSpec.ofChange projectPathsSpec)

/-- ITS FALSE NEIGHBOUR: 'it returns false'. Refute it at one input. -/
def projectPathsWrong : ChangeSpec := { name := "projectPaths", fn := fun _ => fun
  | [d1, d2, d3, d4, d5] => { results := [.lit (.bool false)], args := [d1, d2, d3, d4, d5] }
  | _ => none }
def ProjectPathsWrongFalsely : Prop := projectPathsRow.holds Tryz.pinned (OpenSpec.ofChange projectPathsWrong)

/-- 'punnetlaw22.TransRound': WHATEVER THE INPUT: true; the input reads as it did. -/
def transRoundSpec : ChangeSpec := { name := "transRound", fn := fun _ => fun
  | [d1, d2, d3] => { results := [.lit (.bool true)], args := [d1, d2, d3] }
  | _ => none }
def transRoundRow : OpenClaim := { program := "ytnadlkjmdimjkaagreat", sum := "17b69ce848df1c1c5313b6c8cbc73da7c58b22e6ba8ce91d2e72f0e2e3b32d8f", func := "punnet/punnetlaw22.TransRound", spec := "transRound", inPlace := ["math.archTrunc", "math.Float64bits", "math.Float64frombits"], plainKeys := false, apart := false }
def TransRoundSaid : Prop := transRoundRow.holds Tryz.pinned (OpenSpec.ofChange transRoundSpec)

/-- ITS FALSE NEIGHBOUR: 'it returns false'. Refute it at one input. -/
def transRoundWrong : ChangeSpec := { name := "transRound", fn := fun _ => fun
  | [d1, d2, d3] => { results := [.lit (.bool false)], args := [d1, d2, d3] }
  | _ => none }
def TransRoundWrongFalsely : Prop := transRoundRow.holds Tryz.pinned (OpenSpec.ofChange transRoundWrong)

/-- 'punnetlaw39.LossNearest': WHATEVER THE INPUT: true; the input reads as it did. -/
def lossNearestSpec : ChangeSpec := { name := "lossNearest", fn := fun _ => fun
  | [d1, d2] => { results := [.lit (.bool true)], args := [d1, d2] }
  | _ => none }
def lossNearestRow : OpenClaim := { program := "ytnadlkjmdimjkaagreat", sum := "17b69ce848df1c1c5313b6c8cbc73da7c58b22e6ba8ce91d2e72f0e2e3b32d8f", func := "punnet/punnetlaw39.LossNearest", spec := "lossNearest", unfollowed := true, recurses := true, plainKeys := false, apart := false }
def LossNearestSaid : Prop := lossNearestRow.holds Tryz.pinned (OpenSpec.ofChange lossNearestSpec)

/-- ITS FALSE NEIGHBOUR: 'it returns false'. Refute it at one input. -/
def lossNearestWrong : ChangeSpec := { name := "lossNearest", fn := fun _ => fun
  | [d1, d2] => { results := [.lit (.bool false)], args := [d1, d2] }
  | _ => none }
def LossNearestWrongFalsely : Prop := lossNearestRow.holds Tryz.pinned (OpenSpec.ofChange lossNearestWrong)

/-- 'punnetlaw39.LossTwins': WHATEVER THE INPUT: true; the input reads as it did. -/
def lossTwinsSpec : ChangeSpec := { name := "lossTwins", fn := fun _ => fun
  | [d1, d2, d3, d4, d5] => { results := [.lit (.bool true)], args := [d1, d2, d3, d4, d5] }
  | _ => none }
def lossTwinsRow : OpenClaim := { program := "ytnadlkjmdimjkaagreat", sum := "17b69ce848df1c1c5313b6c8cbc73da7c58b22e6ba8ce91d2e72f0e2e3b32d8f", func := "punnet/punnetlaw39.LossTwins", spec := "lossTwins", inPlace := ["math.archTrunc", "math.Float64bits", "math.Float64frombits"], plainKeys := false, apart := false }
def LossTwinsSaid : Prop := lossTwinsRow.holds Tryz.pinned (OpenSpec.ofChange lossTwinsSpec)

/-- ITS FALSE NEIGHBOUR: 'it returns false'. Refute it at one input. -/
def lossTwinsWrong : ChangeSpec := { name := "lossTwins", fn := fun _ => fun
  | [d1, d2, d3, d4, d5] => { results := [.lit (.bool false)], args := [d1, d2, d3, d4, d5] }
  | _ => none }
def LossTwinsWrongFalsely : Prop := lossTwinsRow.holds Tryz.pinned (OpenSpec.ofChange lossTwinsWrong)

/- THE SECOND FORM. 'bulk': how many values and letters a reading holds, each counted each time it is reached (what is shared counts as often as it is met; a slice's spare places count too). A statement '..UptoSaid' is the law's where the arguments, and the package variables that the reading takes, are together of bulk at most 1048576: NARROWER than '..Said'. Prove '..Said' where nothing that the law and all that it calls make is longer than what came in: it says more and counts as full. Else prove '..UptoSaid'. A law counts once. -/
mutual
def uptoBulk {H : Type} : DataW H → Nat
  | .lit (.string bytes) => bytes.length + 1
  | .lit _ => 1
  | .nil => 1
  | .ptr d => uptoBulk d + 1
  | .slice elems spare => uptoBulkAll elems + uptoBulkAll spare + 1
  | .agg parts => uptoBulkAll parts + 1
  | .iface _ d => uptoBulk d + 1
  | .map entries => uptoBulkEntries entries + 1
  | .held _ => 1
def uptoBulkAll {H : Type} : List (DataW H) → Nat
  | [] => 0
  | d :: r => uptoBulk d + uptoBulkAll r
def uptoBulkEntries {H : Type} : List (Lit × DataW H) → Nat
  | [] => 0
  | x :: r => uptoBulkEntry x + uptoBulkEntries r
def uptoBulkEntry {H : Type} : Lit × DataW H → Nat
  | (.string bytes, d) => bytes.length + uptoBulk d + 1
  | (_, d) => uptoBulk d + 1
 end
def uptoSmall : (H : Type) → List (DataW H) → Bool := fun _ ds => decide (uptoBulkAll ds ≤ 1048576)
def OpenSpec.upto (s : _root_.Go.ChangeSpec) : _root_.Go.OpenSpec := { _root_.Go.OpenSpec.ofChange s with cond := some uptoSmall }

/-- 'punnetlaw39.LossFates', WHERE WHAT IT READS IS OF BULK AT MOST 1048576: true; the input reads as it did. -/
def lossFatesUptoRow : OpenClaim := { program := "ytnadlkjmdimjkaagreat", sum := "17b69ce848df1c1c5313b6c8cbc73da7c58b22e6ba8ce91d2e72f0e2e3b32d8f", func := "punnet/punnetlaw39.LossFates", spec := "lossFates", recurses := true, plainKeys := false, apart := false, narrowed := true }
def LossFatesUptoSaid : Prop := lossFatesUptoRow.holds Tryz.pinned (OpenSpec.upto lossFatesSpec)

/-- 'punnetlaw22.TransOwn', WHERE WHAT IT READS IS OF BULK AT MOST 1048576: true; the input reads as it did. -/
def transOwnUptoRow : OpenClaim := { program := "ytnadlkjmdimjkaagreat", sum := "17b69ce848df1c1c5313b6c8cbc73da7c58b22e6ba8ce91d2e72f0e2e3b32d8f", func := "punnet/punnetlaw22.TransOwn", spec := "transOwn", inPlace := ["math.archTrunc", "math.Float64bits", "math.Float64frombits"], plainKeys := false, apart := false, narrowed := true }
def TransOwnUptoSaid : Prop := transOwnUptoRow.holds Tryz.pinned (OpenSpec.upto transOwnSpec)

/-- 'punnetlaw22.TransTo', WHERE WHAT IT READS IS OF BULK AT MOST 1048576: true; the input reads as it did. -/
def transToUptoRow : OpenClaim := { program := "ytnadlkjmdimjkaagreat", sum := "17b69ce848df1c1c5313b6c8cbc73da7c58b22e6ba8ce91d2e72f0e2e3b32d8f", func := "punnet/punnetlaw22.TransTo", spec := "transTo", inPlace := ["math.archTrunc", "math.Float64bits", "math.Float64frombits"], plainKeys := false, apart := false, narrowed := true }
def TransToUptoSaid : Prop := transToUptoRow.holds Tryz.pinned (OpenSpec.upto transToSpec)

/-- 'punnetlaw22.TransWorth', WHERE WHAT IT READS IS OF BULK AT MOST 1048576: true; the input reads as it did. -/
def transWorthUptoRow : OpenClaim := { program := "ytnadlkjmdimjkaagreat", sum := "17b69ce848df1c1c5313b6c8cbc73da7c58b22e6ba8ce91d2e72f0e2e3b32d8f", func := "punnet/punnetlaw22.TransWorth", spec := "transWorth", inPlace := ["math.archTrunc", "math.Float64bits", "math.Float64frombits"], plainKeys := false, apart := false, narrowed := true }
def TransWorthUptoSaid : Prop := transWorthUptoRow.holds Tryz.pinned (OpenSpec.upto transWorthSpec)

/-- 'punnetlaw24.ProjectPaths', WHERE WHAT IT READS IS OF BULK AT MOST 1048576: true; the input reads as it did. -/
def projectPathsUptoRow : OpenClaim := { program := "ytnadlkjmdimjkaagreat", sum := "17b69ce848df1c1c5313b6c8cbc73da7c58b22e6ba8ce91d2e72f0e2e3b32d8f", func := "punnet/punnetlaw24.ProjectPaths", spec := "projectPaths", inPlace := ["math.archTrunc", "math.Float64bits", "math.Float64frombits"], unfollowed := true, recurses := true, plainKeys := false, apart := false, narrowed := true }
def ProjectPathsUptoSaid : Prop := projectPathsUptoRow.holds Tryz.pinned (OpenSpec.upto projectPathsSpec)

/-- 'punnetlaw22.TransRound', WHERE WHAT IT READS IS OF BULK AT MOST 1048576: true; the input reads as it did. -/
def transRoundUptoRow : OpenClaim := { program := "ytnadlkjmdimjkaagreat", sum := "17b69ce848df1c1c5313b6c8cbc73da7c58b22e6ba8ce91d2e72f0e2e3b32d8f", func := "punnet/punnetlaw22.TransRound", spec := "transRound", inPlace := ["math.archTrunc", "math.Float64bits", "math.Float64frombits"], plainKeys := false, apart := false, narrowed := true }
def TransRoundUptoSaid : Prop := transRoundUptoRow.holds Tryz.pinned (OpenSpec.upto transRoundSpec)

/-- 'punnetlaw39.LossNearest', WHERE WHAT IT READS IS OF BULK AT MOST 1048576: true; the input reads as it did. -/
def lossNearestUptoRow : OpenClaim := { program := "ytnadlkjmdimjkaagreat", sum := "17b69ce848df1c1c5313b6c8cbc73da7c58b22e6ba8ce91d2e72f0e2e3b32d8f", func := "punnet/punnetlaw39.LossNearest", spec := "lossNearest", unfollowed := true, recurses := true, plainKeys := false, apart := false, narrowed := true }
def LossNearestUptoSaid : Prop := lossNearestUptoRow.holds Tryz.pinned (OpenSpec.upto lossNearestSpec)

/-- 'punnetlaw39.LossTwins', WHERE WHAT IT READS IS OF BULK AT MOST 1048576: true; the input reads as it did. -/
def lossTwinsUptoRow : OpenClaim := { program := "ytnadlkjmdimjkaagreat", sum := "17b69ce848df1c1c5313b6c8cbc73da7c58b22e6ba8ce91d2e72f0e2e3b32d8f", func := "punnet/punnetlaw39.LossTwins", spec := "lossTwins", inPlace := ["math.archTrunc", "math.Float64bits", "math.Float64frombits"], plainKeys := false, apart := false, narrowed := true }
def LossTwinsUptoSaid : Prop := lossTwinsUptoRow.holds Tryz.pinned (OpenSpec.upto lossTwinsSpec)

end Rows
end Go.Proofs.YtnadlkjmdimjkaaGreat
