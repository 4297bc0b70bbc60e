/-
  No cell of these rows narrows 'for every input' (looked for: loops, veiled, ifaces, maps, wideKeys, modest, calm, conditions, laid).
  DERIVED. THE GIVEN ROWS OF THIS SEAT. 4 by the template 'for every input the law returns true; each argument reads behind the call as it read before'; 0 by the template 'total and deterministic' (their statements: YtkefdpgmelndaaaTotals.lean).
  GIVEN WITH THE SEED: the statements are not yours to turn. If you find one false, say at which input.
  Laid BY PROGRAM, IN A SANDBOX (cutbox-rows.mjs): the forced cells as the released guide's own fill.sh prints them over the translation 9c7fd416a5d9c88d… (all of the seat's roots in one cut). By AI agents, Wed Nov 11 2026. No macro, syntax, notation, axiom, sorry.
-/
import Derived.Test.YtkefdpgmelndaaaChecked
import GoSem.Claim
import GoSem.ClaimJoined
import GoSem.ClaimMapViews
import Derived.JoinedTies
import Derived.KernelRfl
namespace Go.Proofs.Ytkefdpgmelndaaa
/- THE CELL 'sum', in the pinned program and in every row, IS THE sha256 OF THE DUMP (.gsa) THAT YtkefdpgmelndaaaProg.lean LOADS. Nothing in Lean hashes anything: it is a label: what it is worth is what the hold of that sum in a sandbox is worth. -/
noncomputable def Try.pinned : Pinned := { name := "ytkefdpgmelndaaa", sum := "9c7fd416a5d9c88daf7a4792a4ab8446ce0dd8c452e2c07b727aca044feb1a52", checked := Try.checked }
namespace Rows
def none {H : Type} : Left H := { results := [], args := [] }

/-- 'seisinlaw13.CapLays': WHATEVER THE INPUT: true; the input reads as it did. -/
def capLaysSpec : ChangeSpec := { name := "capLays", fn := fun _ => fun
  | [d] => { results := [.lit (.bool true)], args := [d] }
  | _ => none }
def capLaysRow : OpenClaim := { program := "ytkefdpgmelndaaa", sum := "9c7fd416a5d9c88daf7a4792a4ab8446ce0dd8c452e2c07b727aca044feb1a52", func := "seisin/seisinlaw13.CapLays", spec := "capLays", unfollowed := true, recurses := true, apart := false }
def CapLaysSaid : Prop := capLaysRow.holds Try.pinned (OpenSpec.ofChange capLaysSpec)

/-- ITS FALSE NEIGHBOUR: 'it returns false'. Refute it at one input. -/
def capLaysWrong : ChangeSpec := { name := "capLays", fn := fun _ => fun
  | [d] => { results := [.lit (.bool false)], args := [d] }
  | _ => none }
def CapLaysWrongFalsely : Prop := capLaysRow.holds Try.pinned (OpenSpec.ofChange capLaysWrong)

/-- 'seisinlaw13.CapReads': WHATEVER THE INPUT: true; the input reads as it did. -/
def capReadsSpec : ChangeSpec := { name := "capReads", fn := fun _ => fun
  | [d] => { results := [.lit (.bool true)], args := [d] }
  | _ => none }
def capReadsRow : OpenClaim := { program := "ytkefdpgmelndaaa", sum := "9c7fd416a5d9c88daf7a4792a4ab8446ce0dd8c452e2c07b727aca044feb1a52", func := "seisin/seisinlaw13.CapReads", spec := "capReads", unfollowed := true, recurses := true, apart := false }
def CapReadsSaid : Prop := capReadsRow.holds Try.pinned (OpenSpec.ofChange capReadsSpec)

/-- ITS FALSE NEIGHBOUR: 'it returns false'. Refute it at one input. -/
def capReadsWrong : ChangeSpec := { name := "capReads", fn := fun _ => fun
  | [d] => { results := [.lit (.bool false)], args := [d] }
  | _ => none }
def CapReadsWrongFalsely : Prop := capReadsRow.holds Try.pinned (OpenSpec.ofChange capReadsWrong)

/-- 'seisinlaw13.CapBack': WHATEVER THE INPUT: true; the input reads as it did. -/
def capBackSpec : ChangeSpec := { name := "capBack", fn := fun _ => fun
  | [d1, d2, d3, d4] => { results := [.lit (.bool true)], args := [d1, d2, d3, d4] }
  | _ => none }
def capBackRow : OpenClaim := { program := "ytkefdpgmelndaaa", sum := "9c7fd416a5d9c88daf7a4792a4ab8446ce0dd8c452e2c07b727aca044feb1a52", func := "seisin/seisinlaw13.CapBack", spec := "capBack", unfollowed := true, recurses := true, apart := false }
def CapBackSaid : Prop := capBackRow.holds Try.pinned (OpenSpec.ofChange capBackSpec)

/-- ITS FALSE NEIGHBOUR: 'it returns false'. Refute it at one input. -/
def capBackWrong : ChangeSpec := { name := "capBack", fn := fun _ => fun
  | [d1, d2, d3, d4] => { results := [.lit (.bool false)], args := [d1, d2, d3, d4] }
  | _ => none }
def CapBackWrongFalsely : Prop := capBackRow.holds Try.pinned (OpenSpec.ofChange capBackWrong)

/-- 'seisinlaw13.CapAlike': WHATEVER THE INPUT: true; the input reads as it did. -/
def capAlikeSpec : ChangeSpec := { name := "capAlike", fn := fun _ => fun
  | [d1, d2] => { results := [.lit (.bool true)], args := [d1, d2] }
  | _ => none }
def capAlikeRow : OpenClaim := { program := "ytkefdpgmelndaaa", sum := "9c7fd416a5d9c88daf7a4792a4ab8446ce0dd8c452e2c07b727aca044feb1a52", func := "seisin/seisinlaw13.CapAlike", spec := "capAlike", unfollowed := true, recurses := true, apart := false }
def CapAlikeSaid : Prop := capAlikeRow.holds Try.pinned (OpenSpec.ofChange capAlikeSpec)

/-- ITS FALSE NEIGHBOUR: 'it returns false'. Refute it at one input. -/
def capAlikeWrong : ChangeSpec := { name := "capAlike", fn := fun _ => fun
  | [d1, d2] => { results := [.lit (.bool false)], args := [d1, d2] }
  | _ => none }
def CapAlikeWrongFalsely : Prop := capAlikeRow.holds Try.pinned (OpenSpec.ofChange capAlikeWrong)

/- THE SECOND FORM. 'bulk': how many values and letters a reading holds, each counted each time it is reached (what is shared counts as often as it is met; a slice's spare places count too). A statement '..UptoSaid' is the law's where the arguments, and the package variables that the reading takes, are together of bulk at most 1048576: NARROWER than '..Said'. Prove '..Said' where nothing that the law and all that it calls make is longer than what came in: it says more and counts as full. Else prove '..UptoSaid'. A law counts once. -/
mutual
def uptoBulk {H : Type} : DataW H → Nat
  | .lit (.string bytes) => bytes.length + 1
  | .lit _ => 1
  | .nil => 1
  | .ptr d => uptoBulk d + 1
  | .slice elems spare => uptoBulkAll elems + uptoBulkAll spare + 1
  | .agg parts => uptoBulkAll parts + 1
  | .iface _ d => uptoBulk d + 1
  | .map entries => uptoBulkEntries entries + 1
  | .held _ => 1
def uptoBulkAll {H : Type} : List (DataW H) → Nat
  | [] => 0
  | d :: r => uptoBulk d + uptoBulkAll r
def uptoBulkEntries {H : Type} : List (Lit × DataW H) → Nat
  | [] => 0
  | x :: r => uptoBulkEntry x + uptoBulkEntries r
def uptoBulkEntry {H : Type} : Lit × DataW H → Nat
  | (.string bytes, d) => bytes.length + uptoBulk d + 1
  | (_, d) => uptoBulk d + 1
 end
def uptoSmall : (H : Type) → List (DataW H) → Bool := fun _ ds => decide (uptoBulkAll ds ≤ 1048576)
def OpenSpec.upto (s : _root_.Go.ChangeSpec) : _root_.Go.OpenSpec := { _root_.Go.OpenSpec.ofChange s with cond := some uptoSmall }

/-- 'seisinlaw13.CapLays', WHERE WHAT IT READS IS OF BULK AT MOST 1048576: true; the input reads as it did. -/
def capLaysUptoRow : OpenClaim := { program := "ytkefdpgmelndaaa", sum := "9c7fd416a5d9c88daf7a4792a4ab8446ce0dd8c452e2c07b727aca044feb1a52", func := "seisin/seisinlaw13.CapLays", spec := "capLays", unfollowed := true, recurses := true, apart := false, narrowed := true }
def CapLaysUptoSaid : Prop := capLaysUptoRow.holds Try.pinned (OpenSpec.upto capLaysSpec)

/-- 'seisinlaw13.CapReads', WHERE WHAT IT READS IS OF BULK AT MOST 1048576: true; the input reads as it did. -/
def capReadsUptoRow : OpenClaim := { program := "ytkefdpgmelndaaa", sum := "9c7fd416a5d9c88daf7a4792a4ab8446ce0dd8c452e2c07b727aca044feb1a52", func := "seisin/seisinlaw13.CapReads", spec := "capReads", unfollowed := true, recurses := true, apart := false, narrowed := true }
def CapReadsUptoSaid : Prop := capReadsUptoRow.holds Try.pinned (OpenSpec.upto capReadsSpec)

/-- 'seisinlaw13.CapBack', WHERE WHAT IT READS IS OF BULK AT MOST 1048576: true; the input reads as it did. -/
def capBackUptoRow : OpenClaim := { program := "ytkefdpgmelndaaa", sum := "9c7fd416a5d9c88daf7a4792a4ab8446ce0dd8c452e2c07b727aca044feb1a52", func := "seisin/seisinlaw13.CapBack", spec := "capBack", unfollowed := true, recurses := true, apart := false, narrowed := true }
def CapBackUptoSaid : Prop := capBackUptoRow.holds Try.pinned (OpenSpec.upto capBackSpec)

/-- 'seisinlaw13.CapAlike', WHERE WHAT IT READS IS OF BULK AT MOST 1048576: true; the input reads as it did. -/
def capAlikeUptoRow : OpenClaim := { program := "ytkefdpgmelndaaa", sum := "9c7fd416a5d9c88daf7a4792a4ab8446ce0dd8c452e2c07b727aca044feb1a52", func := "seisin/seisinlaw13.CapAlike", spec := "capAlike", unfollowed := true, recurses := true, apart := false, narrowed := true }
def CapAlikeUptoSaid : Prop := capAlikeUptoRow.holds Try.pinned (OpenSpec.upto capAlikeSpec)

end Rows
end Go.Proofs.Ytkefdpgmelndaaa
