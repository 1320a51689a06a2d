/-
  No cell of these rows narrows 'for every input' (looked for: loops, veiled, ifaces, maps, wideKeys, modest, calm, conditions, laid).
  DERIVED. THE GIVEN ROWS OF THIS SEAT. 5 by the template 'for every input the law returns true; each argument reads behind the call as it read before'; 0 by the template 'total and deterministic' (their statements: YthingdchjkhfbaaGreatTotals.lean).
  GIVEN WITH THE SEED: the statements are not yours to turn. If you find one false, say at which input.
  Laid BY PROGRAM, IN A SANDBOX (cutbox-rows.mjs): the forced cells as the released guide's own fill.sh prints them over the translation c81b4d01797ac9f3… (all of the seat's roots in one cut). By AI agents, Wed Nov 11 2026. No macro, syntax, notation, axiom, sorry.
-/
import Derived.Test.YthingdchjkhfbaaGreatChecked
import GoSem.Claim
import GoSem.ClaimJoined
import GoSem.ClaimMapViews
import Derived.JoinedTies
import Derived.KernelRfl
namespace Go.Proofs.YthingdchjkhfbaaGreat
/- THE CELL 'sum', in the pinned program and in every row, IS THE sha256 OF THE DUMP (.gsa) THAT YthingdchjkhfbaaGreatProg.lean LOADS. Nothing in Lean hashes anything: it is a label: what it is worth is what the hold of that sum in a sandbox is worth. -/
noncomputable def Tryz.pinned : Pinned := { name := "ythingdchjkhfbaagreat", sum := "c81b4d01797ac9f3fc7ce4e3a3826e0506c28b3697fb6869981eeca51f6530e2", checked := Tryz.checked }
namespace Rows
def none {H : Type} : Left H := { results := [], args := [] }

/-- 'punnetlaw27.StateCarts': WHATEVER THE INPUT: true; the input reads as it did. -/
def stateCartsSpec : ChangeSpec := { name := "stateCarts", fn := fun _ => fun
  | [d1, d2, d3, d4] => { results := [.lit (.bool true)], args := [d1, d2, d3, d4] }
  | _ => none }
def stateCartsRow : OpenClaim := { program := "ythingdchjkhfbaagreat", sum := "c81b4d01797ac9f3fc7ce4e3a3826e0506c28b3697fb6869981eeca51f6530e2", func := "punnet/punnetlaw27.StateCarts", spec := "stateCarts", inPlace := ["math.archTrunc", "math.Float64bits", "math.Float64frombits"], unfollowed := true, recurses := true, plainKeys := false, apart := false }
def StateCartsSaid : Prop := stateCartsRow.holds Tryz.pinned (OpenSpec.ofChange stateCartsSpec)

/-- ITS FALSE NEIGHBOUR: 'it returns false'. Refute it at one input. -/
def stateCartsWrong : ChangeSpec := { name := "stateCarts", fn := fun _ => fun
  | [d1, d2, d3, d4] => { results := [.lit (.bool false)], args := [d1, d2, d3, d4] }
  | _ => none }
def StateCartsWrongFalsely : Prop := stateCartsRow.holds Tryz.pinned (OpenSpec.ofChange stateCartsWrong)

/-- 'punnetlaw27.StateParked': WHATEVER THE INPUT: true; the input reads as it did. -/
def stateParkedSpec : ChangeSpec := { name := "stateParked", fn := fun _ => fun
  | [d1, d2, d3, d4] => { results := [.lit (.bool true)], args := [d1, d2, d3, d4] }
  | _ => none }
def stateParkedRow : OpenClaim := { program := "ythingdchjkhfbaagreat", sum := "c81b4d01797ac9f3fc7ce4e3a3826e0506c28b3697fb6869981eeca51f6530e2", func := "punnet/punnetlaw27.StateParked", spec := "stateParked", inPlace := ["math.archTrunc", "math.Float64bits", "math.Float64frombits"], unfollowed := true, recurses := true, plainKeys := false, apart := false }
def StateParkedSaid : Prop := stateParkedRow.holds Tryz.pinned (OpenSpec.ofChange stateParkedSpec)

/-- ITS FALSE NEIGHBOUR: 'it returns false'. Refute it at one input. -/
def stateParkedWrong : ChangeSpec := { name := "stateParked", fn := fun _ => fun
  | [d1, d2, d3, d4] => { results := [.lit (.bool false)], args := [d1, d2, d3, d4] }
  | _ => none }
def StateParkedWrongFalsely : Prop := stateParkedRow.holds Tryz.pinned (OpenSpec.ofChange stateParkedWrong)

/-- 'punnetlaw27.StateOrders': WHATEVER THE INPUT: true; the input reads as it did. -/
def stateOrdersSpec : ChangeSpec := { name := "stateOrders", fn := fun _ => fun
  | [d1, d2, d3, d4, d5] => { results := [.lit (.bool true)], args := [d1, d2, d3, d4, d5] }
  | _ => none }
def stateOrdersRow : OpenClaim := { program := "ythingdchjkhfbaagreat", sum := "c81b4d01797ac9f3fc7ce4e3a3826e0506c28b3697fb6869981eeca51f6530e2", func := "punnet/punnetlaw27.StateOrders", spec := "stateOrders", inPlace := ["math.archTrunc", "math.Float64bits", "math.Float64frombits"], unfollowed := true, recurses := true, plainKeys := false, apart := false }
def StateOrdersSaid : Prop := stateOrdersRow.holds Tryz.pinned (OpenSpec.ofChange stateOrdersSpec)

/-- ITS FALSE NEIGHBOUR: 'it returns false'. Refute it at one input. -/
def stateOrdersWrong : ChangeSpec := { name := "stateOrders", fn := fun _ => fun
  | [d1, d2, d3, d4, d5] => { results := [.lit (.bool false)], args := [d1, d2, d3, d4, d5] }
  | _ => none }
def StateOrdersWrongFalsely : Prop := stateOrdersRow.holds Tryz.pinned (OpenSpec.ofChange stateOrdersWrong)

/-- 'punnetlaw27.StateDrops': WHATEVER THE INPUT: true; the input reads as it did. -/
def stateDropsSpec : ChangeSpec := { name := "stateDrops", fn := fun _ => fun
  | [d1, d2, d3] => { results := [.lit (.bool true)], args := [d1, d2, d3] }
  | _ => none }
def stateDropsRow : OpenClaim := { program := "ythingdchjkhfbaagreat", sum := "c81b4d01797ac9f3fc7ce4e3a3826e0506c28b3697fb6869981eeca51f6530e2", func := "punnet/punnetlaw27.StateDrops", spec := "stateDrops", inPlace := ["math.archTrunc", "math.Float64bits", "math.Float64frombits"], unfollowed := true, recurses := true, plainKeys := false, apart := false }
def StateDropsSaid : Prop := stateDropsRow.holds Tryz.pinned (OpenSpec.ofChange stateDropsSpec)

/-- ITS FALSE NEIGHBOUR: 'it returns false'. Refute it at one input. -/
def stateDropsWrong : ChangeSpec := { name := "stateDrops", fn := fun _ => fun
  | [d1, d2, d3] => { results := [.lit (.bool false)], args := [d1, d2, d3] }
  | _ => none }
def StateDropsWrongFalsely : Prop := stateDropsRow.holds Tryz.pinned (OpenSpec.ofChange stateDropsWrong)

/-- 'punnetlaw27.StateSure': WHATEVER THE INPUT: true; the input reads as it did. -/
def stateSureSpec : ChangeSpec := { name := "stateSure", fn := fun _ => fun
  | [d1, d2, d3, d4, d5] => { results := [.lit (.bool true)], args := [d1, d2, d3, d4, d5] }
  | _ => none }
def stateSureRow : OpenClaim := { program := "ythingdchjkhfbaagreat", sum := "c81b4d01797ac9f3fc7ce4e3a3826e0506c28b3697fb6869981eeca51f6530e2", func := "punnet/punnetlaw27.StateSure", spec := "stateSure", inPlace := ["math.archTrunc", "math.Float64bits", "math.Float64frombits"], unfollowed := true, recurses := true, plainKeys := false, apart := false }
def StateSureSaid : Prop := stateSureRow.holds Tryz.pinned (OpenSpec.ofChange stateSureSpec)

/-- ITS FALSE NEIGHBOUR: 'it returns false'. Refute it at one input. -/
def stateSureWrong : ChangeSpec := { name := "stateSure", fn := fun _ => fun
  | [d1, d2, d3, d4, d5] => { results := [.lit (.bool false)], args := [d1, d2, d3, d4, d5] }
  | _ => none }
def StateSureWrongFalsely : Prop := stateSureRow.holds Tryz.pinned (OpenSpec.ofChange stateSureWrong)

/- THE SECOND FORM. 'bulk': how many values and letters a reading holds, each counted each time it is reached (what is shared counts as often as it is met; a slice's spare places count too). A statement '..UptoSaid' is the law's where the arguments, and the package variables that the reading takes, are together of bulk at most 1048576: NARROWER than '..Said'. Prove '..Said' where nothing that the law and all that it calls make is longer than what came in: it says more and counts as full. Else prove '..UptoSaid'. A law counts once. -/
mutual
def uptoBulk {H : Type} : DataW H → Nat
  | .lit (.string bytes) => bytes.length + 1
  | .lit _ => 1
  | .nil => 1
  | .ptr d => uptoBulk d + 1
  | .slice elems spare => uptoBulkAll elems + uptoBulkAll spare + 1
  | .agg parts => uptoBulkAll parts + 1
  | .iface _ d => uptoBulk d + 1
  | .map entries => uptoBulkEntries entries + 1
  | .held _ => 1
def uptoBulkAll {H : Type} : List (DataW H) → Nat
  | [] => 0
  | d :: r => uptoBulk d + uptoBulkAll r
def uptoBulkEntries {H : Type} : List (Lit × DataW H) → Nat
  | [] => 0
  | x :: r => uptoBulkEntry x + uptoBulkEntries r
def uptoBulkEntry {H : Type} : Lit × DataW H → Nat
  | (.string bytes, d) => bytes.length + uptoBulk d + 1
  | (_, d) => uptoBulk d + 1
 end
def uptoSmall : (H : Type) → List (DataW H) → Bool := fun _ ds => decide (uptoBulkAll ds ≤ 1048576)
def OpenSpec.upto (s : _root_.Go.ChangeSpec) : _root_.Go.OpenSpec := { _root_.Go.OpenSpec.ofChange s with cond := some uptoSmall }

/-- 'punnetlaw27.StateCarts', WHERE WHAT IT READS IS OF BULK AT MOST 1048576: true; the input reads as it did. -/
def stateCartsUptoRow : OpenClaim := { program := "ythingdchjkhfbaagreat", sum := "c81b4d01797ac9f3fc7ce4e3a3826e0506c28b3697fb6869981eeca51f6530e2", func := "punnet/punnetlaw27.StateCarts", spec := "stateCarts", inPlace := ["math.archTrunc", "math.Float64bits", "math.Float64frombits"], unfollowed := true, recurses := true, plainKeys := false, apart := false, narrowed := true }
def StateCartsUptoSaid : Prop := stateCartsUptoRow.holds Tryz.pinned (OpenSpec.upto stateCartsSpec)

/-- 'punnetlaw27.StateParked', WHERE WHAT IT READS IS OF BULK AT MOST 1048576: true; the input reads as it did. -/
def stateParkedUptoRow : OpenClaim := { program := "ythingdchjkhfbaagreat", sum := "c81b4d01797ac9f3fc7ce4e3a3826e0506c28b3697fb6869981eeca51f6530e2", func := "punnet/punnetlaw27.StateParked", spec := "stateParked", inPlace := ["math.archTrunc", "math.Float64bits", "math.Float64frombits"], unfollowed := true, recurses := true, plainKeys := false, apart := false, narrowed := true }
def StateParkedUptoSaid : Prop := stateParkedUptoRow.holds Tryz.pinned (OpenSpec.upto stateParkedSpec)

/-- 'punnetlaw27.StateOrders', WHERE WHAT IT READS IS OF BULK AT MOST 1048576: true; the input reads as it did. -/
def stateOrdersUptoRow : OpenClaim := { program := "ythingdchjkhfbaagreat", sum := "c81b4d01797ac9f3fc7ce4e3a3826e0506c28b3697fb6869981eeca51f6530e2", func := "punnet/punnetlaw27.StateOrders", spec := "stateOrders", inPlace := ["math.archTrunc", "math.Float64bits", "math.Float64frombits"], unfollowed := true, recurses := true, plainKeys := false, apart := false, narrowed := true }
def StateOrdersUptoSaid : Prop := stateOrdersUptoRow.holds Tryz.pinned (OpenSpec.upto stateOrdersSpec)

/-- 'punnetlaw27.StateDrops', WHERE WHAT IT READS IS OF BULK AT MOST 1048576: true; the input reads as it did. -/
def stateDropsUptoRow : OpenClaim := { program := "ythingdchjkhfbaagreat", sum := "c81b4d01797ac9f3fc7ce4e3a3826e0506c28b3697fb6869981eeca51f6530e2", func := "punnet/punnetlaw27.StateDrops", spec := "stateDrops", inPlace := ["math.archTrunc", "math.Float64bits", "math.Float64frombits"], unfollowed := true, recurses := true, plainKeys := false, apart := false, narrowed := true }
def StateDropsUptoSaid : Prop := stateDropsUptoRow.holds Tryz.pinned (OpenSpec.upto stateDropsSpec)

/-- 'punnetlaw27.StateSure', WHERE WHAT IT READS IS OF BULK AT MOST 1048576: true; the input reads as it did. -/
def stateSureUptoRow : OpenClaim := { program := "ythingdchjkhfbaagreat", sum := "c81b4d01797ac9f3fc7ce4e3a3826e0506c28b3697fb6869981eeca51f6530e2", func := "punnet/punnetlaw27.StateSure", spec := "stateSure", inPlace := ["math.archTrunc", "math.Float64bits", "math.Float64frombits"], unfollowed := true, recurses := true, plainKeys := false, apart := false, narrowed := true }
def StateSureUptoSaid : Prop := stateSureUptoRow.holds Tryz.pinned (OpenSpec.upto stateSureSpec)

end Rows
end Go.Proofs.YthingdchjkhfbaaGreat
