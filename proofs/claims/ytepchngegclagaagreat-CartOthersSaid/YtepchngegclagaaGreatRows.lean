/-
  No cell of these rows narrows 'for every input' (looked for: loops, veiled, ifaces, maps, wideKeys, modest, calm, conditions, laid).
  DERIVED. THE GIVEN ROWS OF THIS SEAT. 3 by the template 'for every input the law returns true; each argument reads behind the call as it read before'; 0 by the template 'total and deterministic' (their statements: YtepchngegclagaaGreatTotals.lean).
  GIVEN WITH THE SEED: the statements are not yours to turn. If you find one false, say at which input.
  Laid BY PROGRAM, IN A SANDBOX (cutbox-rows.mjs): the forced cells as the released guide's own fill.sh prints them over the translation 3e219270bd270618… (all of the seat's roots in one cut). By AI agents, Wed Nov 11 2026. No macro, syntax, notation, axiom, sorry.
-/
import Derived.Test.YtepchngegclagaaGreatChecked
import GoSem.Claim
import GoSem.ClaimJoined
import GoSem.ClaimMapViews
import Derived.JoinedTies
import Derived.KernelRfl
namespace Go.Proofs.YtepchngegclagaaGreat
/- THE CELL 'sum', in the pinned program and in every row, IS THE sha256 OF THE DUMP (.gsa) THAT YtepchngegclagaaGreatProg.lean LOADS. Nothing in Lean hashes anything: it is a label: what it is worth is what the hold of that sum in a sandbox is worth. -/
noncomputable def Tryz.pinned : Pinned := { name := "ytepchngegclagaagreat", sum := "3e219270bd27061895cab38f8c34a97ea7cf3996da6d5de6c7e0c36d1edd6f15", checked := Tryz.checked }
namespace Rows
def none {H : Type} : Left H := { results := [], args := [] }

/-- 'punnetlaw28.CartMakes': WHATEVER THE INPUT: true; the input reads as it did. -/
def cartMakesSpec : ChangeSpec := { name := "cartMakes", fn := fun _ => fun
  | [d1, d2, d3, d4, d5] => { results := [.lit (.bool true)], args := [d1, d2, d3, d4, d5] }
  | _ => none }
def cartMakesRow : OpenClaim := { program := "ytepchngegclagaagreat", sum := "3e219270bd27061895cab38f8c34a97ea7cf3996da6d5de6c7e0c36d1edd6f15", func := "punnet/punnetlaw28.CartMakes", spec := "cartMakes", inPlace := ["math.archTrunc", "math.Float64bits", "math.Float64frombits"], unfollowed := true, recurses := true, plainKeys := false, apart := false }
def CartMakesSaid : Prop := cartMakesRow.holds Tryz.pinned (OpenSpec.ofChange cartMakesSpec)

/-- ITS FALSE NEIGHBOUR: 'it returns false'. Refute it at one input. -/
def cartMakesWrong : ChangeSpec := { name := "cartMakes", fn := fun _ => fun
  | [d1, d2, d3, d4, d5] => { results := [.lit (.bool false)], args := [d1, d2, d3, d4, d5] }
  | _ => none }
def CartMakesWrongFalsely : Prop := cartMakesRow.holds Tryz.pinned (OpenSpec.ofChange cartMakesWrong)

/-- 'punnetlaw38.PastWhole': WHATEVER THE INPUT: true; the input reads as it did. -/
def pastWholeSpec : ChangeSpec := { name := "pastWhole", fn := fun _ => fun
  | [d1, d2, d3, d4] => { results := [.lit (.bool true)], args := [d1, d2, d3, d4] }
  | _ => none }
def pastWholeRow : OpenClaim := { program := "ytepchngegclagaagreat", sum := "3e219270bd27061895cab38f8c34a97ea7cf3996da6d5de6c7e0c36d1edd6f15", func := "punnet/punnetlaw38.PastWhole", spec := "pastWhole", inPlace := ["math.archTrunc", "math.Float64bits", "math.Float64frombits"], unfollowed := true, recurses := true, plainKeys := false, apart := false }
def PastWholeSaid : Prop := pastWholeRow.holds Tryz.pinned (OpenSpec.ofChange pastWholeSpec)

/-- ITS FALSE NEIGHBOUR: 'it returns false'. Refute it at one input. -/
def pastWholeWrong : ChangeSpec := { name := "pastWhole", fn := fun _ => fun
  | [d1, d2, d3, d4] => { results := [.lit (.bool false)], args := [d1, d2, d3, d4] }
  | _ => none }
def PastWholeWrongFalsely : Prop := pastWholeRow.holds Tryz.pinned (OpenSpec.ofChange pastWholeWrong)

/-- 'punnetlaw28.CartOthers': WHATEVER THE INPUT: true; the input reads as it did. -/
def cartOthersSpec : ChangeSpec := { name := "cartOthers", fn := fun _ => fun
  | [d1, d2, d3, d4, d5, d6] => { results := [.lit (.bool true)], args := [d1, d2, d3, d4, d5, d6] }
  | _ => none }
def cartOthersRow : OpenClaim := { program := "ytepchngegclagaagreat", sum := "3e219270bd27061895cab38f8c34a97ea7cf3996da6d5de6c7e0c36d1edd6f15", func := "punnet/punnetlaw28.CartOthers", spec := "cartOthers", inPlace := ["math.archTrunc", "math.Float64bits", "math.Float64frombits"], unfollowed := true, recurses := true, plainKeys := false, apart := false }
def CartOthersSaid : Prop := cartOthersRow.holds Tryz.pinned (OpenSpec.ofChange cartOthersSpec)

/-- ITS FALSE NEIGHBOUR: 'it returns false'. Refute it at one input. -/
def cartOthersWrong : ChangeSpec := { name := "cartOthers", fn := fun _ => fun
  | [d1, d2, d3, d4, d5, d6] => { results := [.lit (.bool false)], args := [d1, d2, d3, d4, d5, d6] }
  | _ => none }
def CartOthersWrongFalsely : Prop := cartOthersRow.holds Tryz.pinned (OpenSpec.ofChange cartOthersWrong)

/- THE SECOND FORM. 'bulk': how many values and letters a reading holds, each counted each time it is reached (what is shared counts as often as it is met; a slice's spare places count too). A statement '..UptoSaid' is the law's where the arguments, and the package variables that the reading takes, are together of bulk at most 1048576: NARROWER than '..Said'. Prove '..Said' where nothing that the law and all that it calls make is longer than what came in: it says more and counts as full. Else prove '..UptoSaid'. A law counts once. -/
mutual
def uptoBulk {H : Type} : DataW H → Nat
  | .lit (.string bytes) => bytes.length + 1
  | .lit _ => 1
  | .nil => 1
  | .ptr d => uptoBulk d + 1
  | .slice elems spare => uptoBulkAll elems + uptoBulkAll spare + 1
  | .agg parts => uptoBulkAll parts + 1
  | .iface _ d => uptoBulk d + 1
  | .map entries => uptoBulkEntries entries + 1
  | .held _ => 1
def uptoBulkAll {H : Type} : List (DataW H) → Nat
  | [] => 0
  | d :: r => uptoBulk d + uptoBulkAll r
def uptoBulkEntries {H : Type} : List (Lit × DataW H) → Nat
  | [] => 0
  | x :: r => uptoBulkEntry x + uptoBulkEntries r
def uptoBulkEntry {H : Type} : Lit × DataW H → Nat
  | (.string bytes, d) => bytes.length + uptoBulk d + 1
  | (_, d) => uptoBulk d + 1
 end
def uptoSmall : (H : Type) → List (DataW H) → Bool := fun _ ds => decide (uptoBulkAll ds ≤ 1048576)
def OpenSpec.upto (s : _root_.Go.ChangeSpec) : _root_.Go.OpenSpec := { _root_.Go.OpenSpec.ofChange s with cond := some uptoSmall }

/-- 'punnetlaw28.CartMakes', WHERE WHAT IT READS IS OF BULK AT MOST 1048576: true; the input reads as it did. -/
def cartMakesUptoRow : OpenClaim := { program := "ytepchngegclagaagreat", sum := "3e219270bd27061895cab38f8c34a97ea7cf3996da6d5de6c7e0c36d1edd6f15", func := "punnet/punnetlaw28.CartMakes", spec := "cartMakes", inPlace := ["math.archTrunc", "math.Float64bits", "math.Float64frombits"], unfollowed := true, recurses := true, plainKeys := false, apart := false, narrowed := true }
def CartMakesUptoSaid : Prop := cartMakesUptoRow.holds Tryz.pinned (OpenSpec.upto cartMakesSpec)

/-- 'punnetlaw38.PastWhole', WHERE WHAT IT READS IS OF BULK AT MOST 1048576: true; the input reads as it did. -/
def pastWholeUptoRow : OpenClaim := { program := "ytepchngegclagaagreat", sum := "3e219270bd27061895cab38f8c34a97ea7cf3996da6d5de6c7e0c36d1edd6f15", func := "punnet/punnetlaw38.PastWhole", spec := "pastWhole", inPlace := ["math.archTrunc", "math.Float64bits", "math.Float64frombits"], unfollowed := true, recurses := true, plainKeys := false, apart := false, narrowed := true }
def PastWholeUptoSaid : Prop := pastWholeUptoRow.holds Tryz.pinned (OpenSpec.upto pastWholeSpec)

/-- 'punnetlaw28.CartOthers', WHERE WHAT IT READS IS OF BULK AT MOST 1048576: true; the input reads as it did. -/
def cartOthersUptoRow : OpenClaim := { program := "ytepchngegclagaagreat", sum := "3e219270bd27061895cab38f8c34a97ea7cf3996da6d5de6c7e0c36d1edd6f15", func := "punnet/punnetlaw28.CartOthers", spec := "cartOthers", inPlace := ["math.archTrunc", "math.Float64bits", "math.Float64frombits"], unfollowed := true, recurses := true, plainKeys := false, apart := false, narrowed := true }
def CartOthersUptoSaid : Prop := cartOthersUptoRow.holds Tryz.pinned (OpenSpec.upto cartOthersSpec)

end Rows
end Go.Proofs.YtepchngegclagaaGreat
