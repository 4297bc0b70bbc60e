/-
  No cell of these rows narrows 'for every input' (looked for: loops, veiled, ifaces, maps, wideKeys, modest, calm, conditions, laid).
  DERIVED. THE GIVEN ROWS OF THIS SEAT. 4 by the template 'for every input the law returns true; each argument reads behind the call as it read before'; 0 by the template 'total and deterministic' (their statements: YthhaldgpddmolaaTotals.lean).
  GIVEN WITH THE SEED: the statements are not yours to turn. If you find one false, say at which input.
  Laid BY PROGRAM, IN A SANDBOX (cutbox-rows.mjs): the forced cells as the released guide's own fill.sh prints them over the translation d383db47ecccb769… (all of the seat's roots in one cut). By AI agents, Wed Nov 11 2026. No macro, syntax, notation, axiom, sorry.
-/
import Derived.Test.YthhaldgpddmolaaChecked
import GoSem.Claim
import GoSem.ClaimJoined
import GoSem.ClaimMapViews
import Derived.JoinedTies
import Derived.KernelRfl
namespace Go.Proofs.Ythhaldgpddmolaa
/- THE CELL 'sum', in the pinned program and in every row, IS THE sha256 OF THE DUMP (.gsa) THAT YthhaldgpddmolaaProg.lean LOADS. Nothing in Lean hashes anything: it is a label: what it is worth is what the hold of that sum in a sandbox is worth. -/
noncomputable def Try.pinned : Pinned := { name := "ythhaldgpddmolaa", sum := "d383db47ecccb7698366be036620b2eec1de1f1678dbf1c7308b732e88d502f9", checked := Try.checked }
namespace Rows
def none {H : Type} : Left H := { results := [], args := [] }

/-- 'seisinlaw22.EndsOnce': WHATEVER THE INPUT: true; the input reads as it did. -/
def endsOnceSpec : ChangeSpec := { name := "endsOnce", fn := fun _ => fun
  | [d] => { results := [.lit (.bool true)], args := [d] }
  | _ => none }
def endsOnceRow : OpenClaim := { program := "ythhaldgpddmolaa", sum := "d383db47ecccb7698366be036620b2eec1de1f1678dbf1c7308b732e88d502f9", func := "seisin/seisinlaw22.EndsOnce", spec := "endsOnce", unfollowed := true, recurses := true, apart := false }
def EndsOnceSaid : Prop := endsOnceRow.holds Try.pinned (OpenSpec.ofChange endsOnceSpec)

/-- ITS FALSE NEIGHBOUR: 'it returns false'. Refute it at one input. -/
def endsOnceWrong : ChangeSpec := { name := "endsOnce", fn := fun _ => fun
  | [d] => { results := [.lit (.bool false)], args := [d] }
  | _ => none }
def EndsOnceWrongFalsely : Prop := endsOnceRow.holds Try.pinned (OpenSpec.ofChange endsOnceWrong)

/-- 'seisinlaw22.EndsTurns': WHATEVER THE INPUT: true; the input reads as it did. -/
def endsTurnsSpec : ChangeSpec := { name := "endsTurns", fn := fun _ => fun
  | [d1, d2] => { results := [.lit (.bool true)], args := [d1, d2] }
  | _ => none }
def endsTurnsRow : OpenClaim := { program := "ythhaldgpddmolaa", sum := "d383db47ecccb7698366be036620b2eec1de1f1678dbf1c7308b732e88d502f9", func := "seisin/seisinlaw22.EndsTurns", spec := "endsTurns", unfollowed := true, recurses := true, apart := false }
def EndsTurnsSaid : Prop := endsTurnsRow.holds Try.pinned (OpenSpec.ofChange endsTurnsSpec)

/-- ITS FALSE NEIGHBOUR: 'it returns false'. Refute it at one input. -/
def endsTurnsWrong : ChangeSpec := { name := "endsTurns", fn := fun _ => fun
  | [d1, d2] => { results := [.lit (.bool false)], args := [d1, d2] }
  | _ => none }
def EndsTurnsWrongFalsely : Prop := endsTurnsRow.holds Try.pinned (OpenSpec.ofChange endsTurnsWrong)

/-- 'seisinlaw22.EndsScript': WHATEVER THE INPUT: true; the input reads as it did. -/
def endsScriptSpec : ChangeSpec := { name := "endsScript", fn := fun _ => fun
  | [d] => { results := [.lit (.bool true)], args := [d] }
  | _ => none }
def endsScriptRow : OpenClaim := { program := "ythhaldgpddmolaa", sum := "d383db47ecccb7698366be036620b2eec1de1f1678dbf1c7308b732e88d502f9", func := "seisin/seisinlaw22.EndsScript", spec := "endsScript", unfollowed := true, recurses := true, apart := false }
def EndsScriptSaid : Prop := endsScriptRow.holds Try.pinned (OpenSpec.ofChange endsScriptSpec)

/-- ITS FALSE NEIGHBOUR: 'it returns false'. Refute it at one input. -/
def endsScriptWrong : ChangeSpec := { name := "endsScript", fn := fun _ => fun
  | [d] => { results := [.lit (.bool false)], args := [d] }
  | _ => none }
def EndsScriptWrongFalsely : Prop := endsScriptRow.holds Try.pinned (OpenSpec.ofChange endsScriptWrong)

/-- 'seisinlaw22.EndsNone': WHATEVER THE INPUT: true; the input reads as it did. -/
def endsNoneSpec : ChangeSpec := { name := "endsNone", fn := fun _ => fun
  | [d1, d2] => { results := [.lit (.bool true)], args := [d1, d2] }
  | _ => none }
def endsNoneRow : OpenClaim := { program := "ythhaldgpddmolaa", sum := "d383db47ecccb7698366be036620b2eec1de1f1678dbf1c7308b732e88d502f9", func := "seisin/seisinlaw22.EndsNone", spec := "endsNone", unfollowed := true, recurses := true, apart := false }
def EndsNoneSaid : Prop := endsNoneRow.holds Try.pinned (OpenSpec.ofChange endsNoneSpec)

/-- ITS FALSE NEIGHBOUR: 'it returns false'. Refute it at one input. -/
def endsNoneWrong : ChangeSpec := { name := "endsNone", fn := fun _ => fun
  | [d1, d2] => { results := [.lit (.bool false)], args := [d1, d2] }
  | _ => none }
def EndsNoneWrongFalsely : Prop := endsNoneRow.holds Try.pinned (OpenSpec.ofChange endsNoneWrong)

/- THE SECOND FORM. 'bulk': how many values and letters a reading holds, each counted each time it is reached (what is shared counts as often as it is met; a slice's spare places count too). A statement '..UptoSaid' is the law's where the arguments, and the package variables that the reading takes, are together of bulk at most 1048576: NARROWER than '..Said'. Prove '..Said' where nothing that the law and all that it calls make is longer than what came in: it says more and counts as full. Else prove '..UptoSaid'. A law counts once. -/
mutual
def uptoBulk {H : Type} : DataW H → Nat
  | .lit (.string bytes) => bytes.length + 1
  | .lit _ => 1
  | .nil => 1
  | .ptr d => uptoBulk d + 1
  | .slice elems spare => uptoBulkAll elems + uptoBulkAll spare + 1
  | .agg parts => uptoBulkAll parts + 1
  | .iface _ d => uptoBulk d + 1
  | .map entries => uptoBulkEntries entries + 1
  | .held _ => 1
def uptoBulkAll {H : Type} : List (DataW H) → Nat
  | [] => 0
  | d :: r => uptoBulk d + uptoBulkAll r
def uptoBulkEntries {H : Type} : List (Lit × DataW H) → Nat
  | [] => 0
  | x :: r => uptoBulkEntry x + uptoBulkEntries r
def uptoBulkEntry {H : Type} : Lit × DataW H → Nat
  | (.string bytes, d) => bytes.length + uptoBulk d + 1
  | (_, d) => uptoBulk d + 1
 end
def uptoSmall : (H : Type) → List (DataW H) → Bool := fun _ ds => decide (uptoBulkAll ds ≤ 1048576)
def OpenSpec.upto (s : _root_.Go.ChangeSpec) : _root_.Go.OpenSpec := { _root_.Go.OpenSpec.ofChange s with cond := some uptoSmall }

/-- 'seisinlaw22.EndsOnce', WHERE WHAT IT READS IS OF BULK AT MOST 1048576: true; the input reads as it did. -/
def endsOnceUptoRow : OpenClaim := { program := "ythhaldgpddmolaa", sum := "d383db47ecccb7698366be036620b2eec1de1f1678dbf1c7308b732e88d502f9", func := "seisin/seisinlaw22.EndsOnce", spec := "endsOnce", unfollowed := true, recurses := true, apart := false, narrowed := true }
def EndsOnceUptoSaid : Prop := endsOnceUptoRow.holds Try.pinned (OpenSpec.upto endsOnceSpec)

/-- 'seisinlaw22.EndsTurns', WHERE WHAT IT READS IS OF BULK AT MOST 1048576: true; the input reads as it did. -/
def endsTurnsUptoRow : OpenClaim := { program := "ythhaldgpddmolaa", sum := "d383db47ecccb7698366be036620b2eec1de1f1678dbf1c7308b732e88d502f9", func := "seisin/seisinlaw22.EndsTurns", spec := "endsTurns", unfollowed := true, recurses := true, apart := false, narrowed := true }
def EndsTurnsUptoSaid : Prop := endsTurnsUptoRow.holds Try.pinned (OpenSpec.upto endsTurnsSpec)

/-- 'seisinlaw22.EndsScript', WHERE WHAT IT READS IS OF BULK AT MOST 1048576: true; the input reads as it did. -/
def endsScriptUptoRow : OpenClaim := { program := "ythhaldgpddmolaa", sum := "d383db47ecccb7698366be036620b2eec1de1f1678dbf1c7308b732e88d502f9", func := "seisin/seisinlaw22.EndsScript", spec := "endsScript", unfollowed := true, recurses := true, apart := false, narrowed := true }
def EndsScriptUptoSaid : Prop := endsScriptUptoRow.holds Try.pinned (OpenSpec.upto endsScriptSpec)

/-- 'seisinlaw22.EndsNone', WHERE WHAT IT READS IS OF BULK AT MOST 1048576: true; the input reads as it did. -/
def endsNoneUptoRow : OpenClaim := { program := "ythhaldgpddmolaa", sum := "d383db47ecccb7698366be036620b2eec1de1f1678dbf1c7308b732e88d502f9", func := "seisin/seisinlaw22.EndsNone", spec := "endsNone", unfollowed := true, recurses := true, apart := false, narrowed := true }
def EndsNoneUptoSaid : Prop := endsNoneUptoRow.holds Try.pinned (OpenSpec.upto endsNoneSpec)

end Rows
end Go.Proofs.Ythhaldgpddmolaa
