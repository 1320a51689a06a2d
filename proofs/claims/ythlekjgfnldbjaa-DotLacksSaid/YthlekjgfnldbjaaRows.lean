/-
  No cell of these rows narrows 'for every input' (looked for: loops, veiled, ifaces, maps, wideKeys, modest, calm, conditions, laid).
  DERIVED. THE GIVEN ROWS OF THIS SEAT. 3 by the template 'for every input the law returns true; each argument reads behind the call as it read before'; 0 by the template 'total and deterministic' (their statements: YthlekjgfnldbjaaTotals.lean).
  GIVEN WITH THE SEED: the statements are not yours to turn. If you find one false, say at which input.
  Laid BY PROGRAM, IN A SANDBOX (cutbox-rows.mjs): the forced cells as the released guide's own fill.sh prints them over the translation 167bc7d28d58f17c… (all of the seat's roots in one cut). By AI agents, Wed Nov 11 2026. No macro, syntax, notation, axiom, sorry.
-/
import Derived.Test.YthlekjgfnldbjaaChecked
import GoSem.Claim
import GoSem.ClaimJoined
import GoSem.ClaimMapViews
import Derived.JoinedTies
import Derived.KernelRfl
namespace Go.Proofs.Ythlekjgfnldbjaa
/- THE CELL 'sum', in the pinned program and in every row, IS THE sha256 OF THE DUMP (.gsa) THAT YthlekjgfnldbjaaProg.lean LOADS. Nothing in Lean hashes anything: it is a label: what it is worth is what the hold of that sum in a sandbox is worth. -/
noncomputable def Try.pinned : Pinned := { name := "ythlekjgfnldbjaa", sum := "167bc7d28d58f17c1ea8f21f7361d26ee681b8c65db618f20b3769fead67b9cc", checked := Try.checked }
namespace Rows
def none {H : Type} : Left H := { results := [], args := [] }

/-- 'punnetlaw25.DotTags': WHATEVER THE INPUT: true; the input reads as it did. -/
def dotTagsSpec : ChangeSpec := { name := "dotTags", fn := fun _ => fun
  | [d1, d2, d3] => { results := [.lit (.bool true)], args := [d1, d2, d3] }
  | _ => none }
def dotTagsRow : OpenClaim := { program := "ythlekjgfnldbjaa", sum := "167bc7d28d58f17c1ea8f21f7361d26ee681b8c65db618f20b3769fead67b9cc", func := "punnet/punnetlaw25.DotTags", spec := "dotTags", apart := false }
def DotTagsSaid : Prop := dotTagsRow.holds Try.pinned (OpenSpec.ofChange dotTagsSpec)

/-- ITS FALSE NEIGHBOUR: 'it returns false'. Refute it at one input. -/
def dotTagsWrong : ChangeSpec := { name := "dotTags", fn := fun _ => fun
  | [d1, d2, d3] => { results := [.lit (.bool false)], args := [d1, d2, d3] }
  | _ => none }
def DotTagsWrongFalsely : Prop := dotTagsRow.holds Try.pinned (OpenSpec.ofChange dotTagsWrong)

/-- 'punnetlaw25.DotJoins': WHATEVER THE INPUT: true; the input reads as it did. -/
def dotJoinsSpec : ChangeSpec := { name := "dotJoins", fn := fun _ => fun
  | [d1, d2, d3] => { results := [.lit (.bool true)], args := [d1, d2, d3] }
  | _ => none }
def dotJoinsRow : OpenClaim := { program := "ythlekjgfnldbjaa", sum := "167bc7d28d58f17c1ea8f21f7361d26ee681b8c65db618f20b3769fead67b9cc", func := "punnet/punnetlaw25.DotJoins", spec := "dotJoins", apart := false }
def DotJoinsSaid : Prop := dotJoinsRow.holds Try.pinned (OpenSpec.ofChange dotJoinsSpec)

/-- ITS FALSE NEIGHBOUR: 'it returns false'. Refute it at one input. -/
def dotJoinsWrong : ChangeSpec := { name := "dotJoins", fn := fun _ => fun
  | [d1, d2, d3] => { results := [.lit (.bool false)], args := [d1, d2, d3] }
  | _ => none }
def DotJoinsWrongFalsely : Prop := dotJoinsRow.holds Try.pinned (OpenSpec.ofChange dotJoinsWrong)

/-- 'punnetlaw25.DotLacks': WHATEVER THE INPUT: true; the input reads as it did. -/
def dotLacksSpec : ChangeSpec := { name := "dotLacks", fn := fun _ => fun
  | [d1, d2] => { results := [.lit (.bool true)], args := [d1, d2] }
  | _ => none }
def dotLacksRow : OpenClaim := { program := "ythlekjgfnldbjaa", sum := "167bc7d28d58f17c1ea8f21f7361d26ee681b8c65db618f20b3769fead67b9cc", func := "punnet/punnetlaw25.DotLacks", spec := "dotLacks", apart := false }
def DotLacksSaid : Prop := dotLacksRow.holds Try.pinned (OpenSpec.ofChange dotLacksSpec)

/-- ITS FALSE NEIGHBOUR: 'it returns false'. Refute it at one input. -/
def dotLacksWrong : ChangeSpec := { name := "dotLacks", fn := fun _ => fun
  | [d1, d2] => { results := [.lit (.bool false)], args := [d1, d2] }
  | _ => none }
def DotLacksWrongFalsely : Prop := dotLacksRow.holds Try.pinned (OpenSpec.ofChange dotLacksWrong)

/- THE SECOND FORM. 'bulk': how many values and letters a reading holds, each counted each time it is reached (what is shared counts as often as it is met; a slice's spare places count too). A statement '..UptoSaid' is the law's where the arguments, and the package variables that the reading takes, are together of bulk at most 1048576: NARROWER than '..Said'. Prove '..Said' where nothing that the law and all that it calls make is longer than what came in: it says more and counts as full. Else prove '..UptoSaid'. A law counts once. -/
mutual
def uptoBulk {H : Type} : DataW H → Nat
  | .lit (.string bytes) => bytes.length + 1
  | .lit _ => 1
  | .nil => 1
  | .ptr d => uptoBulk d + 1
  | .slice elems spare => uptoBulkAll elems + uptoBulkAll spare + 1
  | .agg parts => uptoBulkAll parts + 1
  | .iface _ d => uptoBulk d + 1
  | .map entries => uptoBulkEntries entries + 1
  | .held _ => 1
def uptoBulkAll {H : Type} : List (DataW H) → Nat
  | [] => 0
  | d :: r => uptoBulk d + uptoBulkAll r
def uptoBulkEntries {H : Type} : List (Lit × DataW H) → Nat
  | [] => 0
  | x :: r => uptoBulkEntry x + uptoBulkEntries r
def uptoBulkEntry {H : Type} : Lit × DataW H → Nat
  | (.string bytes, d) => bytes.length + uptoBulk d + 1
  | (_, d) => uptoBulk d + 1
 end
def uptoSmall : (H : Type) → List (DataW H) → Bool := fun _ ds => decide (uptoBulkAll ds ≤ 1048576)
def OpenSpec.upto (s : _root_.Go.ChangeSpec) : _root_.Go.OpenSpec := { _root_.Go.OpenSpec.ofChange s with cond := some uptoSmall }

/-- 'punnetlaw25.DotTags', WHERE WHAT IT READS IS OF BULK AT MOST 1048576: true; the input reads as it did. -/
def dotTagsUptoRow : OpenClaim := { program := "ythlekjgfnldbjaa", sum := "167bc7d28d58f17c1ea8f21f7361d26ee681b8c65db618f20b3769fead67b9cc", func := "punnet/punnetlaw25.DotTags", spec := "dotTags", apart := false, narrowed := true }
def DotTagsUptoSaid : Prop := dotTagsUptoRow.holds Try.pinned (OpenSpec.upto dotTagsSpec)

/-- 'punnetlaw25.DotJoins', WHERE WHAT IT READS IS OF BULK AT MOST 1048576: true; the input reads as it did. -/
def dotJoinsUptoRow : OpenClaim := { program := "ythlekjgfnldbjaa", sum := "167bc7d28d58f17c1ea8f21f7361d26ee681b8c65db618f20b3769fead67b9cc", func := "punnet/punnetlaw25.DotJoins", spec := "dotJoins", apart := false, narrowed := true }
def DotJoinsUptoSaid : Prop := dotJoinsUptoRow.holds Try.pinned (OpenSpec.upto dotJoinsSpec)

/-- 'punnetlaw25.DotLacks', WHERE WHAT IT READS IS OF BULK AT MOST 1048576: true; the input reads as it did. -/
def dotLacksUptoRow : OpenClaim := { program := "ythlekjgfnldbjaa", sum := "167bc7d28d58f17c1ea8f21f7361d26ee681b8c65db618f20b3769fead67b9cc", func := "punnet/punnetlaw25.DotLacks", spec := "dotLacks", apart := false, narrowed := true }
def DotLacksUptoSaid : Prop := dotLacksUptoRow.holds Try.pinned (OpenSpec.upto dotLacksSpec)

end Rows
end Go.Proofs.Ythlekjgfnldbjaa
