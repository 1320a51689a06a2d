/-
  No cell of these rows narrows 'for every input' (looked for: loops, veiled, ifaces, maps, wideKeys, modest, calm, conditions, laid).
  DERIVED. THE GIVEN ROWS OF THIS SEAT. 8 by the template 'for every input the law returns true; each argument reads behind the call as it read before'; 0 by the template 'total and deterministic' (their statements: YtbojhapdidieoaaTotals.lean).
  GIVEN WITH THE SEED: the statements are not yours to turn. If you find one false, say at which input.
  Laid BY PROGRAM, IN A SANDBOX (cutbox-rows.mjs): the forced cells as the released guide's own fill.sh prints them over the translation bf6b5e61d555c989… (all of the seat's roots in one cut). By AI agents, Wed Nov 11 2026. No macro, syntax, notation, axiom, sorry.
-/
import Derived.Test.YtbojhapdidieoaaChecked
import GoSem.Claim
import GoSem.ClaimJoined
import GoSem.ClaimMapViews
import Derived.JoinedTies
import Derived.KernelRfl
namespace Go.Proofs.Ytbojhapdidieoaa
/- THE CELL 'sum', in the pinned program and in every row, IS THE sha256 OF THE DUMP (.gsa) THAT YtbojhapdidieoaaProg.lean LOADS. Nothing in Lean hashes anything: it is a label: what it is worth is what the hold of that sum in a sandbox is worth. -/
noncomputable def Try.pinned : Pinned := { name := "ytbojhapdidieoaa", sum := "bf6b5e61d555c989e10cfd68c644d0697c3dbf3618253d9205c2db44b1d472f7", checked := Try.checked }
namespace Rows
def none {H : Type} : Left H := { results := [], args := [] }

/-- 'punnetlaw18.PathBack': WHATEVER THE INPUT: true; the input reads as it did. -/
def pathBackSpec : ChangeSpec := { name := "pathBack", fn := fun _ => fun
  | [d1, d2, d3] => { results := [.lit (.bool true)], args := [d1, d2, d3] }
  | _ => none }
def pathBackRow : OpenClaim := { program := "ytbojhapdidieoaa", sum := "bf6b5e61d555c989e10cfd68c644d0697c3dbf3618253d9205c2db44b1d472f7", func := "punnet/punnetlaw18.PathBack", spec := "pathBack", plainKeys := false, apart := false }
def PathBackSaid : Prop := pathBackRow.holds Try.pinned (OpenSpec.ofChange pathBackSpec)

/-- ITS FALSE NEIGHBOUR: 'it returns false'. Refute it at one input. -/
def pathBackWrong : ChangeSpec := { name := "pathBack", fn := fun _ => fun
  | [d1, d2, d3] => { results := [.lit (.bool false)], args := [d1, d2, d3] }
  | _ => none }
def PathBackWrongFalsely : Prop := pathBackRow.holds Try.pinned (OpenSpec.ofChange pathBackWrong)

/-- 'punnetlaw18.PathParts': WHATEVER THE INPUT: true; the input reads as it did. -/
def pathPartsSpec : ChangeSpec := { name := "pathParts", fn := fun _ => fun
  | [d1, d2, d3, d4] => { results := [.lit (.bool true)], args := [d1, d2, d3, d4] }
  | _ => none }
def pathPartsRow : OpenClaim := { program := "ytbojhapdidieoaa", sum := "bf6b5e61d555c989e10cfd68c644d0697c3dbf3618253d9205c2db44b1d472f7", func := "punnet/punnetlaw18.PathParts", spec := "pathParts", plainKeys := false, apart := false }
def PathPartsSaid : Prop := pathPartsRow.holds Try.pinned (OpenSpec.ofChange pathPartsSpec)

/-- ITS FALSE NEIGHBOUR: 'it returns false'. Refute it at one input. -/
def pathPartsWrong : ChangeSpec := { name := "pathParts", fn := fun _ => fun
  | [d1, d2, d3, d4] => { results := [.lit (.bool false)], args := [d1, d2, d3, d4] }
  | _ => none }
def PathPartsWrongFalsely : Prop := pathPartsRow.holds Try.pinned (OpenSpec.ofChange pathPartsWrong)

/-- 'punnetlaw18.PathLens': WHATEVER THE INPUT: true; the input reads as it did. -/
def pathLensSpec : ChangeSpec := { name := "pathLens", fn := fun _ => fun
  | [d1, d2] => { results := [.lit (.bool true)], args := [d1, d2] }
  | _ => none }
def pathLensRow : OpenClaim := { program := "ytbojhapdidieoaa", sum := "bf6b5e61d555c989e10cfd68c644d0697c3dbf3618253d9205c2db44b1d472f7", func := "punnet/punnetlaw18.PathLens", spec := "pathLens", plainKeys := false, apart := false }
def PathLensSaid : Prop := pathLensRow.holds Try.pinned (OpenSpec.ofChange pathLensSpec)

/-- ITS FALSE NEIGHBOUR: 'it returns false'. Refute it at one input. -/
def pathLensWrong : ChangeSpec := { name := "pathLens", fn := fun _ => fun
  | [d1, d2] => { results := [.lit (.bool false)], args := [d1, d2] }
  | _ => none }
def PathLensWrongFalsely : Prop := pathLensRow.holds Try.pinned (OpenSpec.ofChange pathLensWrong)

/-- 'punnetlaw18.PathLeads': WHATEVER THE INPUT: true; the input reads as it did. -/
def pathLeadsSpec : ChangeSpec := { name := "pathLeads", fn := fun _ => fun
  | [d1, d2, d3] => { results := [.lit (.bool true)], args := [d1, d2, d3] }
  | _ => none }
def pathLeadsRow : OpenClaim := { program := "ytbojhapdidieoaa", sum := "bf6b5e61d555c989e10cfd68c644d0697c3dbf3618253d9205c2db44b1d472f7", func := "punnet/punnetlaw18.PathLeads", spec := "pathLeads", plainKeys := false, apart := false }
def PathLeadsSaid : Prop := pathLeadsRow.holds Try.pinned (OpenSpec.ofChange pathLeadsSpec)

/-- ITS FALSE NEIGHBOUR: 'it returns false'. Refute it at one input. -/
def pathLeadsWrong : ChangeSpec := { name := "pathLeads", fn := fun _ => fun
  | [d1, d2, d3] => { results := [.lit (.bool false)], args := [d1, d2, d3] }
  | _ => none }
def PathLeadsWrongFalsely : Prop := pathLeadsRow.holds Try.pinned (OpenSpec.ofChange pathLeadsWrong)

/-- 'punnetlaw21.StepWorth': WHATEVER THE INPUT: true; the input reads as it did. -/
def stepWorthSpec : ChangeSpec := { name := "stepWorth", fn := fun _ => fun
  | [d1, d2, d3] => { results := [.lit (.bool true)], args := [d1, d2, d3] }
  | _ => none }
def stepWorthRow : OpenClaim := { program := "ytbojhapdidieoaa", sum := "bf6b5e61d555c989e10cfd68c644d0697c3dbf3618253d9205c2db44b1d472f7", func := "punnet/punnetlaw21.StepWorth", spec := "stepWorth", inPlace := ["math.archTrunc", "math.Float64bits", "math.Float64frombits"], plainKeys := false, apart := false }
def StepWorthSaid : Prop := stepWorthRow.holds Try.pinned (OpenSpec.ofChange stepWorthSpec)

/-- ITS FALSE NEIGHBOUR: 'it returns false'. Refute it at one input. -/
def stepWorthWrong : ChangeSpec := { name := "stepWorth", fn := fun _ => fun
  | [d1, d2, d3] => { results := [.lit (.bool false)], args := [d1, d2, d3] }
  | _ => none }
def StepWorthWrongFalsely : Prop := stepWorthRow.holds Try.pinned (OpenSpec.ofChange stepWorthWrong)

/-- 'punnetlaw21.StepBack': WHATEVER THE INPUT: true; the input reads as it did. -/
def stepBackSpec : ChangeSpec := { name := "stepBack", fn := fun _ => fun
  | [d1, d2, d3] => { results := [.lit (.bool true)], args := [d1, d2, d3] }
  | _ => none }
def stepBackRow : OpenClaim := { program := "ytbojhapdidieoaa", sum := "bf6b5e61d555c989e10cfd68c644d0697c3dbf3618253d9205c2db44b1d472f7", func := "punnet/punnetlaw21.StepBack", spec := "stepBack", inPlace := ["math.archTrunc", "math.Float64bits", "math.Float64frombits"], plainKeys := false, apart := false }
def StepBackSaid : Prop := stepBackRow.holds Try.pinned (OpenSpec.ofChange stepBackSpec)

/-- ITS FALSE NEIGHBOUR: 'it returns false'. Refute it at one input. -/
def stepBackWrong : ChangeSpec := { name := "stepBack", fn := fun _ => fun
  | [d1, d2, d3] => { results := [.lit (.bool false)], args := [d1, d2, d3] }
  | _ => none }
def StepBackWrongFalsely : Prop := stepBackRow.holds Try.pinned (OpenSpec.ofChange stepBackWrong)

/-- 'punnetlaw19.CarryFields': WHATEVER THE INPUT: true; the input reads as it did. -/
def carryFieldsSpec : ChangeSpec := { name := "carryFields", fn := fun _ => fun
  | [d1, d2, d3] => { results := [.lit (.bool true)], args := [d1, d2, d3] }
  | _ => none }
def carryFieldsRow : OpenClaim := { program := "ytbojhapdidieoaa", sum := "bf6b5e61d555c989e10cfd68c644d0697c3dbf3618253d9205c2db44b1d472f7", func := "punnet/punnetlaw19.CarryFields", spec := "carryFields", plainKeys := false, apart := false }
def CarryFieldsSaid : Prop := carryFieldsRow.holds Try.pinned (OpenSpec.ofChange carryFieldsSpec)

/-- ITS FALSE NEIGHBOUR: 'it returns false'. Refute it at one input. -/
def carryFieldsWrong : ChangeSpec := { name := "carryFields", fn := fun _ => fun
  | [d1, d2, d3] => { results := [.lit (.bool false)], args := [d1, d2, d3] }
  | _ => none }
def CarryFieldsWrongFalsely : Prop := carryFieldsRow.holds Try.pinned (OpenSpec.ofChange carryFieldsWrong)

/-- 'punnetlaw24.ProjectBack': WHATEVER THE INPUT: true; the input reads as it did. -/
def projectBackSpec : ChangeSpec := { name := "projectBack", fn := fun _ => fun
  | [d1, d2, d3] => { results := [.lit (.bool true)], args := [d1, d2, d3] }
  | _ => none }
def projectBackRow : OpenClaim := { program := "ytbojhapdidieoaa", sum := "bf6b5e61d555c989e10cfd68c644d0697c3dbf3618253d9205c2db44b1d472f7", func := "punnet/punnetlaw24.ProjectBack", spec := "projectBack", inPlace := ["math.archTrunc", "math.Float64bits", "math.Float64frombits"], unfollowed := true, recurses := true, plainKeys := false, apart := false }
def ProjectBackSaid : Prop := projectBackRow.holds Try.pinned (OpenSpec.ofChange projectBackSpec)

/-- ITS FALSE NEIGHBOUR: 'it returns false'. Refute it at one input. -/
def projectBackWrong : ChangeSpec := { name := "projectBack", fn := fun _ => fun
  | [d1, d2, d3] => { results := [.lit (.bool false)], args := [d1, d2, d3] }
  | _ => none }
def ProjectBackWrongFalsely : Prop := projectBackRow.holds Try.pinned (OpenSpec.ofChange projectBackWrong)

/- THE SECOND FORM. 'bulk': how many values and letters a reading holds, each counted each time it is reached (what is shared counts as often as it is met; a slice's spare places count too). A statement '..UptoSaid' is the law's where the arguments, and the package variables that the reading takes, are together of bulk at most 1048576: NARROWER than '..Said'. Prove '..Said' where nothing that the law and all that it calls make is longer than what came in: it says more and counts as full. Else prove '..UptoSaid'. A law counts once. -/
mutual
def uptoBulk {H : Type} : DataW H → Nat
  | .lit (.string bytes) => bytes.length + 1
  | .lit _ => 1
  | .nil => 1
  | .ptr d => uptoBulk d + 1
  | .slice elems spare => uptoBulkAll elems + uptoBulkAll spare + 1
  | .agg parts => uptoBulkAll parts + 1
  | .iface _ d => uptoBulk d + 1
  | .map entries => uptoBulkEntries entries + 1
  | .held _ => 1
def uptoBulkAll {H : Type} : List (DataW H) → Nat
  | [] => 0
  | d :: r => uptoBulk d + uptoBulkAll r
def uptoBulkEntries {H : Type} : List (Lit × DataW H) → Nat
  | [] => 0
  | x :: r => uptoBulkEntry x + uptoBulkEntries r
def uptoBulkEntry {H : Type} : Lit × DataW H → Nat
  | (.string bytes, d) => bytes.length + uptoBulk d + 1
  | (_, d) => uptoBulk d + 1
 end
def uptoSmall : (H : Type) → List (DataW H) → Bool := fun _ ds => decide (uptoBulkAll ds ≤ 1048576)
def OpenSpec.upto (s : _root_.Go.ChangeSpec) : _root_.Go.OpenSpec := { _root_.Go.OpenSpec.ofChange s with cond := some uptoSmall }

/-- 'punnetlaw18.PathBack', WHERE WHAT IT READS IS OF BULK AT MOST 1048576: true; the input reads as it did. -/
def pathBackUptoRow : OpenClaim := { program := "ytbojhapdidieoaa", sum := "bf6b5e61d555c989e10cfd68c644d0697c3dbf3618253d9205c2db44b1d472f7", func := "punnet/punnetlaw18.PathBack", spec := "pathBack", plainKeys := false, apart := false, narrowed := true }
def PathBackUptoSaid : Prop := pathBackUptoRow.holds Try.pinned (OpenSpec.upto pathBackSpec)

/-- 'punnetlaw18.PathParts', WHERE WHAT IT READS IS OF BULK AT MOST 1048576: true; the input reads as it did. -/
def pathPartsUptoRow : OpenClaim := { program := "ytbojhapdidieoaa", sum := "bf6b5e61d555c989e10cfd68c644d0697c3dbf3618253d9205c2db44b1d472f7", func := "punnet/punnetlaw18.PathParts", spec := "pathParts", plainKeys := false, apart := false, narrowed := true }
def PathPartsUptoSaid : Prop := pathPartsUptoRow.holds Try.pinned (OpenSpec.upto pathPartsSpec)

/-- 'punnetlaw18.PathLens', WHERE WHAT IT READS IS OF BULK AT MOST 1048576: true; the input reads as it did. -/
def pathLensUptoRow : OpenClaim := { program := "ytbojhapdidieoaa", sum := "bf6b5e61d555c989e10cfd68c644d0697c3dbf3618253d9205c2db44b1d472f7", func := "punnet/punnetlaw18.PathLens", spec := "pathLens", plainKeys := false, apart := false, narrowed := true }
def PathLensUptoSaid : Prop := pathLensUptoRow.holds Try.pinned (OpenSpec.upto pathLensSpec)

/-- 'punnetlaw18.PathLeads', WHERE WHAT IT READS IS OF BULK AT MOST 1048576: true; the input reads as it did. -/
def pathLeadsUptoRow : OpenClaim := { program := "ytbojhapdidieoaa", sum := "bf6b5e61d555c989e10cfd68c644d0697c3dbf3618253d9205c2db44b1d472f7", func := "punnet/punnetlaw18.PathLeads", spec := "pathLeads", plainKeys := false, apart := false, narrowed := true }
def PathLeadsUptoSaid : Prop := pathLeadsUptoRow.holds Try.pinned (OpenSpec.upto pathLeadsSpec)

/-- 'punnetlaw21.StepWorth', WHERE WHAT IT READS IS OF BULK AT MOST 1048576: true; the input reads as it did. -/
def stepWorthUptoRow : OpenClaim := { program := "ytbojhapdidieoaa", sum := "bf6b5e61d555c989e10cfd68c644d0697c3dbf3618253d9205c2db44b1d472f7", func := "punnet/punnetlaw21.StepWorth", spec := "stepWorth", inPlace := ["math.archTrunc", "math.Float64bits", "math.Float64frombits"], plainKeys := false, apart := false, narrowed := true }
def StepWorthUptoSaid : Prop := stepWorthUptoRow.holds Try.pinned (OpenSpec.upto stepWorthSpec)

/-- 'punnetlaw21.StepBack', WHERE WHAT IT READS IS OF BULK AT MOST 1048576: true; the input reads as it did. -/
def stepBackUptoRow : OpenClaim := { program := "ytbojhapdidieoaa", sum := "bf6b5e61d555c989e10cfd68c644d0697c3dbf3618253d9205c2db44b1d472f7", func := "punnet/punnetlaw21.StepBack", spec := "stepBack", inPlace := ["math.archTrunc", "math.Float64bits", "math.Float64frombits"], plainKeys := false, apart := false, narrowed := true }
def StepBackUptoSaid : Prop := stepBackUptoRow.holds Try.pinned (OpenSpec.upto stepBackSpec)

/-- 'punnetlaw19.CarryFields', WHERE WHAT IT READS IS OF BULK AT MOST 1048576: true; the input reads as it did. -/
def carryFieldsUptoRow : OpenClaim := { program := "ytbojhapdidieoaa", sum := "bf6b5e61d555c989e10cfd68c644d0697c3dbf3618253d9205c2db44b1d472f7", func := "punnet/punnetlaw19.CarryFields", spec := "carryFields", plainKeys := false, apart := false, narrowed := true }
def CarryFieldsUptoSaid : Prop := carryFieldsUptoRow.holds Try.pinned (OpenSpec.upto carryFieldsSpec)

/-- 'punnetlaw24.ProjectBack', WHERE WHAT IT READS IS OF BULK AT MOST 1048576: true; the input reads as it did. -/
def projectBackUptoRow : OpenClaim := { program := "ytbojhapdidieoaa", sum := "bf6b5e61d555c989e10cfd68c644d0697c3dbf3618253d9205c2db44b1d472f7", func := "punnet/punnetlaw24.ProjectBack", spec := "projectBack", inPlace := ["math.archTrunc", "math.Float64bits", "math.Float64frombits"], unfollowed := true, recurses := true, plainKeys := false, apart := false, narrowed := true }
def ProjectBackUptoSaid : Prop := projectBackUptoRow.holds Try.pinned (OpenSpec.upto projectBackSpec)

end Rows
end Go.Proofs.Ytbojhapdidieoaa
