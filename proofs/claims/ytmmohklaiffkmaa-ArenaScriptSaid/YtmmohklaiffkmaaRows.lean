/-
  No cell of these rows narrows 'for every input' (looked for: loops, veiled, ifaces, maps, wideKeys, modest, calm, conditions, laid).
  DERIVED. THE GIVEN ROWS OF THIS SEAT. 5 by the template 'for every input the law returns true; each argument reads behind the call as it read before'; 0 by the template 'total and deterministic' (their statements: YtmmohklaiffkmaaTotals.lean).
  GIVEN WITH THE SEED: the statements are not yours to turn. If you find one false, say at which input.
  Laid BY PROGRAM, IN A SANDBOX (cutbox-rows.mjs): the forced cells as the released guide's own fill.sh prints them over the translation eb86bd6cd6092b02… (all of the seat's roots in one cut). By AI agents, Wed Nov 11 2026. No macro, syntax, notation, axiom, sorry.
-/
import Derived.Test.YtmmohklaiffkmaaChecked
import GoSem.Claim
import GoSem.ClaimJoined
import GoSem.ClaimMapViews
import Derived.JoinedTies
import Derived.KernelRfl
namespace Go.Proofs.Ytmmohklaiffkmaa
/- THE CELL 'sum', in the pinned program and in every row, IS THE sha256 OF THE DUMP (.gsa) THAT YtmmohklaiffkmaaProg.lean LOADS. Nothing in Lean hashes anything: it is a label: what it is worth is what the hold of that sum in a sandbox is worth. -/
noncomputable def Try.pinned : Pinned := { name := "ytmmohklaiffkmaa", sum := "eb86bd6cd6092b02fc3908b1db6c1b517b8f490f356cd5743a2614208ba67c73", checked := Try.checked }
namespace Rows
def none {H : Type} : Left H := { results := [], args := [] }

/-- 'seisinlaw12.ArenaOnce': WHATEVER THE INPUT: true; the input reads as it did. -/
def arenaOnceSpec : ChangeSpec := { name := "arenaOnce", fn := fun _ => fun
  | [d] => { results := [.lit (.bool true)], args := [d] }
  | _ => none }
def arenaOnceRow : OpenClaim := { program := "ytmmohklaiffkmaa", sum := "eb86bd6cd6092b02fc3908b1db6c1b517b8f490f356cd5743a2614208ba67c73", func := "seisin/seisinlaw12.ArenaOnce", spec := "arenaOnce", inPlace := ["slices.overlaps[seisin/api.Object]"], unfollowed := true, recurses := true, apart := false }
def ArenaOnceSaid : Prop := arenaOnceRow.holds Try.pinned (OpenSpec.ofChange arenaOnceSpec)

/-- ITS FALSE NEIGHBOUR: 'it returns false'. Refute it at one input. -/
def arenaOnceWrong : ChangeSpec := { name := "arenaOnce", fn := fun _ => fun
  | [d] => { results := [.lit (.bool false)], args := [d] }
  | _ => none }
def ArenaOnceWrongFalsely : Prop := arenaOnceRow.holds Try.pinned (OpenSpec.ofChange arenaOnceWrong)

/-- 'seisinlaw12.ArenaApart': WHATEVER THE INPUT: true; the input reads as it did. -/
def arenaApartSpec : ChangeSpec := { name := "arenaApart", fn := fun _ => fun
  | [d] => { results := [.lit (.bool true)], args := [d] }
  | _ => none }
def arenaApartRow : OpenClaim := { program := "ytmmohklaiffkmaa", sum := "eb86bd6cd6092b02fc3908b1db6c1b517b8f490f356cd5743a2614208ba67c73", func := "seisin/seisinlaw12.ArenaApart", spec := "arenaApart", inPlace := ["slices.overlaps[seisin/api.Object]"], unfollowed := true, recurses := true, apart := false }
def ArenaApartSaid : Prop := arenaApartRow.holds Try.pinned (OpenSpec.ofChange arenaApartSpec)

/-- ITS FALSE NEIGHBOUR: 'it returns false'. Refute it at one input. -/
def arenaApartWrong : ChangeSpec := { name := "arenaApart", fn := fun _ => fun
  | [d] => { results := [.lit (.bool false)], args := [d] }
  | _ => none }
def ArenaApartWrongFalsely : Prop := arenaApartRow.holds Try.pinned (OpenSpec.ofChange arenaApartWrong)

/-- 'seisinlaw12.ArenaScript': WHATEVER THE INPUT: true; the input reads as it did. -/
def arenaScriptSpec : ChangeSpec := { name := "arenaScript", fn := fun _ => fun
  | [d1, d2] => { results := [.lit (.bool true)], args := [d1, d2] }
  | _ => none }
def arenaScriptRow : OpenClaim := { program := "ytmmohklaiffkmaa", sum := "eb86bd6cd6092b02fc3908b1db6c1b517b8f490f356cd5743a2614208ba67c73", func := "seisin/seisinlaw12.ArenaScript", spec := "arenaScript", inPlace := ["slices.overlaps[seisin/api.Object]"], unfollowed := true, recurses := true, apart := false }
def ArenaScriptSaid : Prop := arenaScriptRow.holds Try.pinned (OpenSpec.ofChange arenaScriptSpec)

/-- ITS FALSE NEIGHBOUR: 'it returns false'. Refute it at one input. -/
def arenaScriptWrong : ChangeSpec := { name := "arenaScript", fn := fun _ => fun
  | [d1, d2] => { results := [.lit (.bool false)], args := [d1, d2] }
  | _ => none }
def ArenaScriptWrongFalsely : Prop := arenaScriptRow.holds Try.pinned (OpenSpec.ofChange arenaScriptWrong)

/-- 'seisinlaw12.ArenaGone': WHATEVER THE INPUT: true; the input reads as it did. -/
def arenaGoneSpec : ChangeSpec := { name := "arenaGone", fn := fun _ => fun
  | [d1, d2] => { results := [.lit (.bool true)], args := [d1, d2] }
  | _ => none }
def arenaGoneRow : OpenClaim := { program := "ytmmohklaiffkmaa", sum := "eb86bd6cd6092b02fc3908b1db6c1b517b8f490f356cd5743a2614208ba67c73", func := "seisin/seisinlaw12.ArenaGone", spec := "arenaGone", inPlace := ["slices.overlaps[seisin/api.Object]"], unfollowed := true, recurses := true, apart := false }
def ArenaGoneSaid : Prop := arenaGoneRow.holds Try.pinned (OpenSpec.ofChange arenaGoneSpec)

/-- ITS FALSE NEIGHBOUR: 'it returns false'. Refute it at one input. -/
def arenaGoneWrong : ChangeSpec := { name := "arenaGone", fn := fun _ => fun
  | [d1, d2] => { results := [.lit (.bool false)], args := [d1, d2] }
  | _ => none }
def ArenaGoneWrongFalsely : Prop := arenaGoneRow.holds Try.pinned (OpenSpec.ofChange arenaGoneWrong)

/-- 'seisinlaw12.ArenaNone': WHATEVER THE INPUT: true; the input reads as it did. -/
def arenaNoneSpec : ChangeSpec := { name := "arenaNone", fn := fun _ => fun
  | [d] => { results := [.lit (.bool true)], args := [d] }
  | _ => none }
def arenaNoneRow : OpenClaim := { program := "ytmmohklaiffkmaa", sum := "eb86bd6cd6092b02fc3908b1db6c1b517b8f490f356cd5743a2614208ba67c73", func := "seisin/seisinlaw12.ArenaNone", spec := "arenaNone", inPlace := ["slices.overlaps[seisin/api.Object]"], unfollowed := true, recurses := true, apart := false }
def ArenaNoneSaid : Prop := arenaNoneRow.holds Try.pinned (OpenSpec.ofChange arenaNoneSpec)

/-- ITS FALSE NEIGHBOUR: 'it returns false'. Refute it at one input. -/
def arenaNoneWrong : ChangeSpec := { name := "arenaNone", fn := fun _ => fun
  | [d] => { results := [.lit (.bool false)], args := [d] }
  | _ => none }
def ArenaNoneWrongFalsely : Prop := arenaNoneRow.holds Try.pinned (OpenSpec.ofChange arenaNoneWrong)

/- THE SECOND FORM. 'bulk': how many values and letters a reading holds, each counted each time it is reached (what is shared counts as often as it is met; a slice's spare places count too). A statement '..UptoSaid' is the law's where the arguments, and the package variables that the reading takes, are together of bulk at most 1048576: NARROWER than '..Said'. Prove '..Said' where nothing that the law and all that it calls make is longer than what came in: it says more and counts as full. Else prove '..UptoSaid'. A law counts once. -/
mutual
def uptoBulk {H : Type} : DataW H → Nat
  | .lit (.string bytes) => bytes.length + 1
  | .lit _ => 1
  | .nil => 1
  | .ptr d => uptoBulk d + 1
  | .slice elems spare => uptoBulkAll elems + uptoBulkAll spare + 1
  | .agg parts => uptoBulkAll parts + 1
  | .iface _ d => uptoBulk d + 1
  | .map entries => uptoBulkEntries entries + 1
  | .held _ => 1
def uptoBulkAll {H : Type} : List (DataW H) → Nat
  | [] => 0
  | d :: r => uptoBulk d + uptoBulkAll r
def uptoBulkEntries {H : Type} : List (Lit × DataW H) → Nat
  | [] => 0
  | x :: r => uptoBulkEntry x + uptoBulkEntries r
def uptoBulkEntry {H : Type} : Lit × DataW H → Nat
  | (.string bytes, d) => bytes.length + uptoBulk d + 1
  | (_, d) => uptoBulk d + 1
 end
def uptoSmall : (H : Type) → List (DataW H) → Bool := fun _ ds => decide (uptoBulkAll ds ≤ 1048576)
def OpenSpec.upto (s : _root_.Go.ChangeSpec) : _root_.Go.OpenSpec := { _root_.Go.OpenSpec.ofChange s with cond := some uptoSmall }

/-- 'seisinlaw12.ArenaOnce', WHERE WHAT IT READS IS OF BULK AT MOST 1048576: true; the input reads as it did. -/
def arenaOnceUptoRow : OpenClaim := { program := "ytmmohklaiffkmaa", sum := "eb86bd6cd6092b02fc3908b1db6c1b517b8f490f356cd5743a2614208ba67c73", func := "seisin/seisinlaw12.ArenaOnce", spec := "arenaOnce", inPlace := ["slices.overlaps[seisin/api.Object]"], unfollowed := true, recurses := true, apart := false, narrowed := true }
def ArenaOnceUptoSaid : Prop := arenaOnceUptoRow.holds Try.pinned (OpenSpec.upto arenaOnceSpec)

/-- 'seisinlaw12.ArenaApart', WHERE WHAT IT READS IS OF BULK AT MOST 1048576: true; the input reads as it did. -/
def arenaApartUptoRow : OpenClaim := { program := "ytmmohklaiffkmaa", sum := "eb86bd6cd6092b02fc3908b1db6c1b517b8f490f356cd5743a2614208ba67c73", func := "seisin/seisinlaw12.ArenaApart", spec := "arenaApart", inPlace := ["slices.overlaps[seisin/api.Object]"], unfollowed := true, recurses := true, apart := false, narrowed := true }
def ArenaApartUptoSaid : Prop := arenaApartUptoRow.holds Try.pinned (OpenSpec.upto arenaApartSpec)

/-- 'seisinlaw12.ArenaScript', WHERE WHAT IT READS IS OF BULK AT MOST 1048576: true; the input reads as it did. -/
def arenaScriptUptoRow : OpenClaim := { program := "ytmmohklaiffkmaa", sum := "eb86bd6cd6092b02fc3908b1db6c1b517b8f490f356cd5743a2614208ba67c73", func := "seisin/seisinlaw12.ArenaScript", spec := "arenaScript", inPlace := ["slices.overlaps[seisin/api.Object]"], unfollowed := true, recurses := true, apart := false, narrowed := true }
def ArenaScriptUptoSaid : Prop := arenaScriptUptoRow.holds Try.pinned (OpenSpec.upto arenaScriptSpec)

/-- 'seisinlaw12.ArenaGone', WHERE WHAT IT READS IS OF BULK AT MOST 1048576: true; the input reads as it did. -/
def arenaGoneUptoRow : OpenClaim := { program := "ytmmohklaiffkmaa", sum := "eb86bd6cd6092b02fc3908b1db6c1b517b8f490f356cd5743a2614208ba67c73", func := "seisin/seisinlaw12.ArenaGone", spec := "arenaGone", inPlace := ["slices.overlaps[seisin/api.Object]"], unfollowed := true, recurses := true, apart := false, narrowed := true }
def ArenaGoneUptoSaid : Prop := arenaGoneUptoRow.holds Try.pinned (OpenSpec.upto arenaGoneSpec)

/-- 'seisinlaw12.ArenaNone', WHERE WHAT IT READS IS OF BULK AT MOST 1048576: true; the input reads as it did. -/
def arenaNoneUptoRow : OpenClaim := { program := "ytmmohklaiffkmaa", sum := "eb86bd6cd6092b02fc3908b1db6c1b517b8f490f356cd5743a2614208ba67c73", func := "seisin/seisinlaw12.ArenaNone", spec := "arenaNone", inPlace := ["slices.overlaps[seisin/api.Object]"], unfollowed := true, recurses := true, apart := false, narrowed := true }
def ArenaNoneUptoSaid : Prop := arenaNoneUptoRow.holds Try.pinned (OpenSpec.upto arenaNoneSpec)

end Rows
end Go.Proofs.Ytmmohklaiffkmaa
