/-
  No cell of these rows narrows 'for every input' (looked for: loops, veiled, ifaces, maps, wideKeys, modest, calm, conditions, laid).
  DERIVED. THE GIVEN ROWS OF THIS SEAT. 3 by the template 'for every input the law returns true; each argument reads behind the call as it read before'; 0 by the template 'total and deterministic' (their statements: YtbegoggigfinjaaTotals.lean).
  GIVEN WITH THE SEED: the statements are not yours to turn. If you find one false, say at which input.
  Laid BY PROGRAM, IN A SANDBOX (cutbox-rows.mjs): the forced cells as the released guide's own fill.sh prints them over the translation d3e0021343d5d2f6… (all of the seat's roots in one cut). By AI agents, Wed Nov 11 2026. No macro, syntax, notation, axiom, sorry.
-/
import Derived.Test.YtbegoggigfinjaaChecked
import GoSem.Claim
import GoSem.ClaimJoined
import GoSem.ClaimMapViews
import Derived.JoinedTies
import Derived.KernelRfl
namespace Go.Proofs.Ytbegoggigfinjaa
/- THE CELL 'sum', in the pinned program and in every row, IS THE sha256 OF THE DUMP (.gsa) THAT YtbegoggigfinjaaProg.lean LOADS. Nothing in Lean hashes anything: it is a label: what it is worth is what the hold of that sum in a sandbox is worth. -/
noncomputable def Try.pinned : Pinned := { name := "ytbegoggigfinjaa", sum := "d3e0021343d5d2f6b5ab594f3afa9ba136430bd0b806f8960103b8d61b6abf6d", checked := Try.checked }
namespace Rows
def none {H : Type} : Left H := { results := [], args := [] }

/-- 'seisinlaw20.ThreadOwn': WHATEVER THE INPUT: true; the input reads as it did. -/
def threadOwnSpec : ChangeSpec := { name := "threadOwn", fn := fun _ => fun
  | [d] => { results := [.lit (.bool true)], args := [d] }
  | _ => none }
def threadOwnRow : OpenClaim := { program := "ytbegoggigfinjaa", sum := "d3e0021343d5d2f6b5ab594f3afa9ba136430bd0b806f8960103b8d61b6abf6d", func := "seisin/seisinlaw20.ThreadOwn", spec := "threadOwn", unfollowed := true, recurses := true, apart := false }
def ThreadOwnSaid : Prop := threadOwnRow.holds Try.pinned (OpenSpec.ofChange threadOwnSpec)

/-- ITS FALSE NEIGHBOUR: 'it returns false'. Refute it at one input. -/
def threadOwnWrong : ChangeSpec := { name := "threadOwn", fn := fun _ => fun
  | [d] => { results := [.lit (.bool false)], args := [d] }
  | _ => none }
def ThreadOwnWrongFalsely : Prop := threadOwnRow.holds Try.pinned (OpenSpec.ofChange threadOwnWrong)

/-- 'seisinlaw20.ThreadScript': WHATEVER THE INPUT: true; the input reads as it did. -/
def threadScriptSpec : ChangeSpec := { name := "threadScript", fn := fun _ => fun
  | [d1, d2] => { results := [.lit (.bool true)], args := [d1, d2] }
  | _ => none }
def threadScriptRow : OpenClaim := { program := "ytbegoggigfinjaa", sum := "d3e0021343d5d2f6b5ab594f3afa9ba136430bd0b806f8960103b8d61b6abf6d", func := "seisin/seisinlaw20.ThreadScript", spec := "threadScript", unfollowed := true, recurses := true, apart := false }
def ThreadScriptSaid : Prop := threadScriptRow.holds Try.pinned (OpenSpec.ofChange threadScriptSpec)

/-- ITS FALSE NEIGHBOUR: 'it returns false'. Refute it at one input. -/
def threadScriptWrong : ChangeSpec := { name := "threadScript", fn := fun _ => fun
  | [d1, d2] => { results := [.lit (.bool false)], args := [d1, d2] }
  | _ => none }
def ThreadScriptWrongFalsely : Prop := threadScriptRow.holds Try.pinned (OpenSpec.ofChange threadScriptWrong)

/-- 'seisinlaw20.ThreadNone': WHATEVER THE INPUT: true; the input reads as it did. -/
def threadNoneSpec : ChangeSpec := { name := "threadNone", fn := fun _ => fun
  | [d] => { results := [.lit (.bool true)], args := [d] }
  | _ => none }
def threadNoneRow : OpenClaim := { program := "ytbegoggigfinjaa", sum := "d3e0021343d5d2f6b5ab594f3afa9ba136430bd0b806f8960103b8d61b6abf6d", func := "seisin/seisinlaw20.ThreadNone", spec := "threadNone", unfollowed := true, recurses := true, apart := false }
def ThreadNoneSaid : Prop := threadNoneRow.holds Try.pinned (OpenSpec.ofChange threadNoneSpec)

/-- ITS FALSE NEIGHBOUR: 'it returns false'. Refute it at one input. -/
def threadNoneWrong : ChangeSpec := { name := "threadNone", fn := fun _ => fun
  | [d] => { results := [.lit (.bool false)], args := [d] }
  | _ => none }
def ThreadNoneWrongFalsely : Prop := threadNoneRow.holds Try.pinned (OpenSpec.ofChange threadNoneWrong)

/- THE SECOND FORM. 'bulk': how many values and letters a reading holds, each counted each time it is reached (what is shared counts as often as it is met; a slice's spare places count too). A statement '..UptoSaid' is the law's where the arguments, and the package variables that the reading takes, are together of bulk at most 1048576: NARROWER than '..Said'. Prove '..Said' where nothing that the law and all that it calls make is longer than what came in: it says more and counts as full. Else prove '..UptoSaid'. A law counts once. -/
mutual
def uptoBulk {H : Type} : DataW H → Nat
  | .lit (.string bytes) => bytes.length + 1
  | .lit _ => 1
  | .nil => 1
  | .ptr d => uptoBulk d + 1
  | .slice elems spare => uptoBulkAll elems + uptoBulkAll spare + 1
  | .agg parts => uptoBulkAll parts + 1
  | .iface _ d => uptoBulk d + 1
  | .map entries => uptoBulkEntries entries + 1
  | .held _ => 1
def uptoBulkAll {H : Type} : List (DataW H) → Nat
  | [] => 0
  | d :: r => uptoBulk d + uptoBulkAll r
def uptoBulkEntries {H : Type} : List (Lit × DataW H) → Nat
  | [] => 0
  | x :: r => uptoBulkEntry x + uptoBulkEntries r
def uptoBulkEntry {H : Type} : Lit × DataW H → Nat
  | (.string bytes, d) => bytes.length + uptoBulk d + 1
  | (_, d) => uptoBulk d + 1
 end
def uptoSmall : (H : Type) → List (DataW H) → Bool := fun _ ds => decide (uptoBulkAll ds ≤ 1048576)
def OpenSpec.upto (s : _root_.Go.ChangeSpec) : _root_.Go.OpenSpec := { _root_.Go.OpenSpec.ofChange s with cond := some uptoSmall }

/-- 'seisinlaw20.ThreadOwn', WHERE WHAT IT READS IS OF BULK AT MOST 1048576: true; the input reads as it did. -/
def threadOwnUptoRow : OpenClaim := { program := "ytbegoggigfinjaa", sum := "d3e0021343d5d2f6b5ab594f3afa9ba136430bd0b806f8960103b8d61b6abf6d", func := "seisin/seisinlaw20.ThreadOwn", spec := "threadOwn", unfollowed := true, recurses := true, apart := false, narrowed := true }
def ThreadOwnUptoSaid : Prop := threadOwnUptoRow.holds Try.pinned (OpenSpec.upto threadOwnSpec)

/-- 'seisinlaw20.ThreadScript', WHERE WHAT IT READS IS OF BULK AT MOST 1048576: true; the input reads as it did. -/
def threadScriptUptoRow : OpenClaim := { program := "ytbegoggigfinjaa", sum := "d3e0021343d5d2f6b5ab594f3afa9ba136430bd0b806f8960103b8d61b6abf6d", func := "seisin/seisinlaw20.ThreadScript", spec := "threadScript", unfollowed := true, recurses := true, apart := false, narrowed := true }
def ThreadScriptUptoSaid : Prop := threadScriptUptoRow.holds Try.pinned (OpenSpec.upto threadScriptSpec)

/-- 'seisinlaw20.ThreadNone', WHERE WHAT IT READS IS OF BULK AT MOST 1048576: true; the input reads as it did. -/
def threadNoneUptoRow : OpenClaim := { program := "ytbegoggigfinjaa", sum := "d3e0021343d5d2f6b5ab594f3afa9ba136430bd0b806f8960103b8d61b6abf6d", func := "seisin/seisinlaw20.ThreadNone", spec := "threadNone", unfollowed := true, recurses := true, apart := false, narrowed := true }
def ThreadNoneUptoSaid : Prop := threadNoneUptoRow.holds Try.pinned (OpenSpec.upto threadNoneSpec)

end Rows
end Go.Proofs.Ytbegoggigfinjaa
