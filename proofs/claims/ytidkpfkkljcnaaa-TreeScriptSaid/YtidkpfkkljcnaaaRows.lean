/-
  No cell of these rows narrows 'for every input' (looked for: loops, veiled, ifaces, maps, wideKeys, modest, calm, conditions, laid).
  DERIVED. THE GIVEN ROWS OF THIS SEAT. 7 by the template 'for every input the law returns true; each argument reads behind the call as it read before'; 0 by the template 'total and deterministic' (their statements: YtidkpfkkljcnaaaTotals.lean).
  GIVEN WITH THE SEED: the statements are not yours to turn. If you find one false, say at which input.
  Laid BY PROGRAM, IN A SANDBOX (cutbox-rows.mjs): the forced cells as the released guide's own fill.sh prints them over the translation e008d7eb1836fe79… (all of the seat's roots in one cut). By AI agents, Wed Nov 11 2026. No macro, syntax, notation, axiom, sorry.
-/
import Derived.Test.YtidkpfkkljcnaaaChecked
import GoSem.Claim
import GoSem.ClaimJoined
import GoSem.ClaimMapViews
import Derived.JoinedTies
import Derived.KernelRfl
namespace Go.Proofs.Ytidkpfkkljcnaaa
/- THE CELL 'sum', in the pinned program and in every row, IS THE sha256 OF THE DUMP (.gsa) THAT YtidkpfkkljcnaaaProg.lean LOADS. Nothing in Lean hashes anything: it is a label: what it is worth is what the hold of that sum in a sandbox is worth. -/
noncomputable def Try.pinned : Pinned := { name := "ytidkpfkkljcnaaa", sum := "e008d7eb1836fe795842b916a45dd792138f356b7d19e0d165bcf412f1dea7dc", checked := Try.checked }
namespace Rows
def none {H : Type} : Left H := { results := [], args := [] }

/-- 'seisinlaw17.TreeDepths': WHATEVER THE INPUT: true; the input reads as it did. -/
def treeDepthsSpec : ChangeSpec := { name := "treeDepths", fn := fun _ => fun
  | [d] => { results := [.lit (.bool true)], args := [d] }
  | _ => none }
def treeDepthsRow : OpenClaim := { program := "ytidkpfkkljcnaaa", sum := "e008d7eb1836fe795842b916a45dd792138f356b7d19e0d165bcf412f1dea7dc", func := "seisin/seisinlaw17.TreeDepths", spec := "treeDepths", unfollowed := true, recurses := true, plainKeys := false, apart := false }
def TreeDepthsSaid : Prop := treeDepthsRow.holds Try.pinned (OpenSpec.ofChange treeDepthsSpec)

/-- ITS FALSE NEIGHBOUR: 'it returns false'. Refute it at one input. -/
def treeDepthsWrong : ChangeSpec := { name := "treeDepths", fn := fun _ => fun
  | [d] => { results := [.lit (.bool false)], args := [d] }
  | _ => none }
def TreeDepthsWrongFalsely : Prop := treeDepthsRow.holds Try.pinned (OpenSpec.ofChange treeDepthsWrong)

/-- 'seisinlaw17.TreeSwapped': WHATEVER THE INPUT: true; the input reads as it did. -/
def treeSwappedSpec : ChangeSpec := { name := "treeSwapped", fn := fun _ => fun
  | [d1, d2, d3] => { results := [.lit (.bool true)], args := [d1, d2, d3] }
  | _ => none }
def treeSwappedRow : OpenClaim := { program := "ytidkpfkkljcnaaa", sum := "e008d7eb1836fe795842b916a45dd792138f356b7d19e0d165bcf412f1dea7dc", func := "seisin/seisinlaw17.TreeSwapped", spec := "treeSwapped", unfollowed := true, recurses := true, plainKeys := false, apart := false }
def TreeSwappedSaid : Prop := treeSwappedRow.holds Try.pinned (OpenSpec.ofChange treeSwappedSpec)

/-- ITS FALSE NEIGHBOUR: 'it returns false'. Refute it at one input. -/
def treeSwappedWrong : ChangeSpec := { name := "treeSwapped", fn := fun _ => fun
  | [d1, d2, d3] => { results := [.lit (.bool false)], args := [d1, d2, d3] }
  | _ => none }
def TreeSwappedWrongFalsely : Prop := treeSwappedRow.holds Try.pinned (OpenSpec.ofChange treeSwappedWrong)

/-- 'seisinlaw17.TreeRebuilt': WHATEVER THE INPUT: true; the input reads as it did. -/
def treeRebuiltSpec : ChangeSpec := { name := "treeRebuilt", fn := fun _ => fun
  | [d] => { results := [.lit (.bool true)], args := [d] }
  | _ => none }
def treeRebuiltRow : OpenClaim := { program := "ytidkpfkkljcnaaa", sum := "e008d7eb1836fe795842b916a45dd792138f356b7d19e0d165bcf412f1dea7dc", func := "seisin/seisinlaw17.TreeRebuilt", spec := "treeRebuilt", unfollowed := true, recurses := true, plainKeys := false, apart := false }
def TreeRebuiltSaid : Prop := treeRebuiltRow.holds Try.pinned (OpenSpec.ofChange treeRebuiltSpec)

/-- ITS FALSE NEIGHBOUR: 'it returns false'. Refute it at one input. -/
def treeRebuiltWrong : ChangeSpec := { name := "treeRebuilt", fn := fun _ => fun
  | [d] => { results := [.lit (.bool false)], args := [d] }
  | _ => none }
def TreeRebuiltWrongFalsely : Prop := treeRebuiltRow.holds Try.pinned (OpenSpec.ofChange treeRebuiltWrong)

/-- 'seisinlaw17.TreeRemoved': WHATEVER THE INPUT: true; the input reads as it did. -/
def treeRemovedSpec : ChangeSpec := { name := "treeRemoved", fn := fun _ => fun
  | [d1, d2] => { results := [.lit (.bool true)], args := [d1, d2] }
  | _ => none }
def treeRemovedRow : OpenClaim := { program := "ytidkpfkkljcnaaa", sum := "e008d7eb1836fe795842b916a45dd792138f356b7d19e0d165bcf412f1dea7dc", func := "seisin/seisinlaw17.TreeRemoved", spec := "treeRemoved", unfollowed := true, recurses := true, plainKeys := false, apart := false }
def TreeRemovedSaid : Prop := treeRemovedRow.holds Try.pinned (OpenSpec.ofChange treeRemovedSpec)

/-- ITS FALSE NEIGHBOUR: 'it returns false'. Refute it at one input. -/
def treeRemovedWrong : ChangeSpec := { name := "treeRemoved", fn := fun _ => fun
  | [d1, d2] => { results := [.lit (.bool false)], args := [d1, d2] }
  | _ => none }
def TreeRemovedWrongFalsely : Prop := treeRemovedRow.holds Try.pinned (OpenSpec.ofChange treeRemovedWrong)

/-- 'seisinlaw17.TreeParents': WHATEVER THE INPUT: true; the input reads as it did. -/
def treeParentsSpec : ChangeSpec := { name := "treeParents", fn := fun _ => fun
  | [d] => { results := [.lit (.bool true)], args := [d] }
  | _ => none }
def treeParentsRow : OpenClaim := { program := "ytidkpfkkljcnaaa", sum := "e008d7eb1836fe795842b916a45dd792138f356b7d19e0d165bcf412f1dea7dc", func := "seisin/seisinlaw17.TreeParents", spec := "treeParents", unfollowed := true, recurses := true, plainKeys := false, apart := false }
def TreeParentsSaid : Prop := treeParentsRow.holds Try.pinned (OpenSpec.ofChange treeParentsSpec)

/-- ITS FALSE NEIGHBOUR: 'it returns false'. Refute it at one input. -/
def treeParentsWrong : ChangeSpec := { name := "treeParents", fn := fun _ => fun
  | [d] => { results := [.lit (.bool false)], args := [d] }
  | _ => none }
def TreeParentsWrongFalsely : Prop := treeParentsRow.holds Try.pinned (OpenSpec.ofChange treeParentsWrong)

/-- 'seisinlaw17.TreeScript': WHATEVER THE INPUT: true; the input reads as it did. -/
def treeScriptSpec : ChangeSpec := { name := "treeScript", fn := fun _ => fun
  | [d] => { results := [.lit (.bool true)], args := [d] }
  | _ => none }
def treeScriptRow : OpenClaim := { program := "ytidkpfkkljcnaaa", sum := "e008d7eb1836fe795842b916a45dd792138f356b7d19e0d165bcf412f1dea7dc", func := "seisin/seisinlaw17.TreeScript", spec := "treeScript", unfollowed := true, recurses := true, plainKeys := false, apart := false }
def TreeScriptSaid : Prop := treeScriptRow.holds Try.pinned (OpenSpec.ofChange treeScriptSpec)

/-- ITS FALSE NEIGHBOUR: 'it returns false'. Refute it at one input. -/
def treeScriptWrong : ChangeSpec := { name := "treeScript", fn := fun _ => fun
  | [d] => { results := [.lit (.bool false)], args := [d] }
  | _ => none }
def TreeScriptWrongFalsely : Prop := treeScriptRow.holds Try.pinned (OpenSpec.ofChange treeScriptWrong)

/-- 'seisinlaw17.TreeNone': WHATEVER THE INPUT: true; the input reads as it did. -/
def treeNoneSpec : ChangeSpec := { name := "treeNone", fn := fun _ => fun
  | [d1, d2] => { results := [.lit (.bool true)], args := [d1, d2] }
  | _ => none }
def treeNoneRow : OpenClaim := { program := "ytidkpfkkljcnaaa", sum := "e008d7eb1836fe795842b916a45dd792138f356b7d19e0d165bcf412f1dea7dc", func := "seisin/seisinlaw17.TreeNone", spec := "treeNone", unfollowed := true, recurses := true, plainKeys := false, apart := false }
def TreeNoneSaid : Prop := treeNoneRow.holds Try.pinned (OpenSpec.ofChange treeNoneSpec)

/-- ITS FALSE NEIGHBOUR: 'it returns false'. Refute it at one input. -/
def treeNoneWrong : ChangeSpec := { name := "treeNone", fn := fun _ => fun
  | [d1, d2] => { results := [.lit (.bool false)], args := [d1, d2] }
  | _ => none }
def TreeNoneWrongFalsely : Prop := treeNoneRow.holds Try.pinned (OpenSpec.ofChange treeNoneWrong)

/- THE SECOND FORM. 'bulk': how many values and letters a reading holds, each counted each time it is reached (what is shared counts as often as it is met; a slice's spare places count too). A statement '..UptoSaid' is the law's where the arguments, and the package variables that the reading takes, are together of bulk at most 1048576: NARROWER than '..Said'. Prove '..Said' where nothing that the law and all that it calls make is longer than what came in: it says more and counts as full. Else prove '..UptoSaid'. A law counts once. -/
mutual
def uptoBulk {H : Type} : DataW H → Nat
  | .lit (.string bytes) => bytes.length + 1
  | .lit _ => 1
  | .nil => 1
  | .ptr d => uptoBulk d + 1
  | .slice elems spare => uptoBulkAll elems + uptoBulkAll spare + 1
  | .agg parts => uptoBulkAll parts + 1
  | .iface _ d => uptoBulk d + 1
  | .map entries => uptoBulkEntries entries + 1
  | .held _ => 1
def uptoBulkAll {H : Type} : List (DataW H) → Nat
  | [] => 0
  | d :: r => uptoBulk d + uptoBulkAll r
def uptoBulkEntries {H : Type} : List (Lit × DataW H) → Nat
  | [] => 0
  | x :: r => uptoBulkEntry x + uptoBulkEntries r
def uptoBulkEntry {H : Type} : Lit × DataW H → Nat
  | (.string bytes, d) => bytes.length + uptoBulk d + 1
  | (_, d) => uptoBulk d + 1
 end
def uptoSmall : (H : Type) → List (DataW H) → Bool := fun _ ds => decide (uptoBulkAll ds ≤ 1048576)
def OpenSpec.upto (s : _root_.Go.ChangeSpec) : _root_.Go.OpenSpec := { _root_.Go.OpenSpec.ofChange s with cond := some uptoSmall }

/-- 'seisinlaw17.TreeDepths', WHERE WHAT IT READS IS OF BULK AT MOST 1048576: true; the input reads as it did. -/
def treeDepthsUptoRow : OpenClaim := { program := "ytidkpfkkljcnaaa", sum := "e008d7eb1836fe795842b916a45dd792138f356b7d19e0d165bcf412f1dea7dc", func := "seisin/seisinlaw17.TreeDepths", spec := "treeDepths", unfollowed := true, recurses := true, plainKeys := false, apart := false, narrowed := true }
def TreeDepthsUptoSaid : Prop := treeDepthsUptoRow.holds Try.pinned (OpenSpec.upto treeDepthsSpec)

/-- 'seisinlaw17.TreeSwapped', WHERE WHAT IT READS IS OF BULK AT MOST 1048576: true; the input reads as it did. -/
def treeSwappedUptoRow : OpenClaim := { program := "ytidkpfkkljcnaaa", sum := "e008d7eb1836fe795842b916a45dd792138f356b7d19e0d165bcf412f1dea7dc", func := "seisin/seisinlaw17.TreeSwapped", spec := "treeSwapped", unfollowed := true, recurses := true, plainKeys := false, apart := false, narrowed := true }
def TreeSwappedUptoSaid : Prop := treeSwappedUptoRow.holds Try.pinned (OpenSpec.upto treeSwappedSpec)

/-- 'seisinlaw17.TreeRebuilt', WHERE WHAT IT READS IS OF BULK AT MOST 1048576: true; the input reads as it did. -/
def treeRebuiltUptoRow : OpenClaim := { program := "ytidkpfkkljcnaaa", sum := "e008d7eb1836fe795842b916a45dd792138f356b7d19e0d165bcf412f1dea7dc", func := "seisin/seisinlaw17.TreeRebuilt", spec := "treeRebuilt", unfollowed := true, recurses := true, plainKeys := false, apart := false, narrowed := true }
def TreeRebuiltUptoSaid : Prop := treeRebuiltUptoRow.holds Try.pinned (OpenSpec.upto treeRebuiltSpec)

/-- 'seisinlaw17.TreeRemoved', WHERE WHAT IT READS IS OF BULK AT MOST 1048576: true; the input reads as it did. -/
def treeRemovedUptoRow : OpenClaim := { program := "ytidkpfkkljcnaaa", sum := "e008d7eb1836fe795842b916a45dd792138f356b7d19e0d165bcf412f1dea7dc", func := "seisin/seisinlaw17.TreeRemoved", spec := "treeRemoved", unfollowed := true, recurses := true, plainKeys := false, apart := false, narrowed := true }
def TreeRemovedUptoSaid : Prop := treeRemovedUptoRow.holds Try.pinned (OpenSpec.upto treeRemovedSpec)

/-- 'seisinlaw17.TreeParents', WHERE WHAT IT READS IS OF BULK AT MOST 1048576: true; the input reads as it did. -/
def treeParentsUptoRow : OpenClaim := { program := "ytidkpfkkljcnaaa", sum := "e008d7eb1836fe795842b916a45dd792138f356b7d19e0d165bcf412f1dea7dc", func := "seisin/seisinlaw17.TreeParents", spec := "treeParents", unfollowed := true, recurses := true, plainKeys := false, apart := false, narrowed := true }
def TreeParentsUptoSaid : Prop := treeParentsUptoRow.holds Try.pinned (OpenSpec.upto treeParentsSpec)

/-- 'seisinlaw17.TreeScript', WHERE WHAT IT READS IS OF BULK AT MOST 1048576: true; the input reads as it did. -/
def treeScriptUptoRow : OpenClaim := { program := "ytidkpfkkljcnaaa", sum := "e008d7eb1836fe795842b916a45dd792138f356b7d19e0d165bcf412f1dea7dc", func := "seisin/seisinlaw17.TreeScript", spec := "treeScript", unfollowed := true, recurses := true, plainKeys := false, apart := false, narrowed := true }
def TreeScriptUptoSaid : Prop := treeScriptUptoRow.holds Try.pinned (OpenSpec.upto treeScriptSpec)

/-- 'seisinlaw17.TreeNone', WHERE WHAT IT READS IS OF BULK AT MOST 1048576: true; the input reads as it did. -/
def treeNoneUptoRow : OpenClaim := { program := "ytidkpfkkljcnaaa", sum := "e008d7eb1836fe795842b916a45dd792138f356b7d19e0d165bcf412f1dea7dc", func := "seisin/seisinlaw17.TreeNone", spec := "treeNone", unfollowed := true, recurses := true, plainKeys := false, apart := false, narrowed := true }
def TreeNoneUptoSaid : Prop := treeNoneUptoRow.holds Try.pinned (OpenSpec.upto treeNoneSpec)

end Rows
end Go.Proofs.Ytidkpfkkljcnaaa
