/-
  No cell of these rows narrows 'for every input' (looked for: loops, veiled, ifaces, maps, wideKeys, modest, calm, conditions, laid).
  DERIVED. THE GIVEN ROWS OF THIS SEAT. 5 by the template 'for every input the law returns true; each argument reads behind the call as it read before'; 0 by the template 'total and deterministic' (their statements: YtaomipfblcndlaaTotals.lean).
  GIVEN WITH THE SEED: the statements are not yours to turn. If you find one false, say at which input.
  Laid BY PROGRAM, IN A SANDBOX (cutbox-rows.mjs): the forced cells as the released guide's own fill.sh prints them over the translation 5b1feba893b2720f… (all of the seat's roots in one cut). By AI agents, Wed Nov 11 2026. No macro, syntax, notation, axiom, sorry.
-/
import Derived.Test.YtaomipfblcndlaaChecked
import GoSem.Claim
import GoSem.ClaimJoined
import GoSem.ClaimMapViews
import Derived.JoinedTies
import Derived.KernelRfl
namespace Go.Proofs.Ytaomipfblcndlaa
/- THE CELL 'sum', in the pinned program and in every row, IS THE sha256 OF THE DUMP (.gsa) THAT YtaomipfblcndlaaProg.lean LOADS. Nothing in Lean hashes anything: it is a label: what it is worth is what the hold of that sum in a sandbox is worth. -/
noncomputable def Try.pinned : Pinned := { name := "ytaomipfblcndlaa", sum := "5b1feba893b2720fce51d43cc626f8e53f3e0e5d2de0f40748e7833500203c10", checked := Try.checked }
namespace Rows
def none {H : Type} : Left H := { results := [], args := [] }

/-- 'seisinlaw19.AsidAll': WHATEVER THE INPUT: true; the input reads as it did. -/
def asidAllSpec : ChangeSpec := { name := "asidAll", fn := fun _ => fun
  | [d] => { results := [.lit (.bool true)], args := [d] }
  | _ => none }
def asidAllRow : OpenClaim := { program := "ytaomipfblcndlaa", sum := "5b1feba893b2720fce51d43cc626f8e53f3e0e5d2de0f40748e7833500203c10", func := "seisin/seisinlaw19.AsidAll", spec := "asidAll", unfollowed := true, recurses := true, apart := false }
def AsidAllSaid : Prop := asidAllRow.holds Try.pinned (OpenSpec.ofChange asidAllSpec)

/-- ITS FALSE NEIGHBOUR: 'it returns false'. Refute it at one input. -/
def asidAllWrong : ChangeSpec := { name := "asidAll", fn := fun _ => fun
  | [d] => { results := [.lit (.bool false)], args := [d] }
  | _ => none }
def AsidAllWrongFalsely : Prop := asidAllRow.holds Try.pinned (OpenSpec.ofChange asidAllWrong)

/-- 'seisinlaw19.AsidSerials': WHATEVER THE INPUT: true; the input reads as it did. -/
def asidSerialsSpec : ChangeSpec := { name := "asidSerials", fn := fun _ => fun
  | [d] => { results := [.lit (.bool true)], args := [d] }
  | _ => none }
def asidSerialsRow : OpenClaim := { program := "ytaomipfblcndlaa", sum := "5b1feba893b2720fce51d43cc626f8e53f3e0e5d2de0f40748e7833500203c10", func := "seisin/seisinlaw19.AsidSerials", spec := "asidSerials", unfollowed := true, recurses := true, apart := false }
def AsidSerialsSaid : Prop := asidSerialsRow.holds Try.pinned (OpenSpec.ofChange asidSerialsSpec)

/-- ITS FALSE NEIGHBOUR: 'it returns false'. Refute it at one input. -/
def asidSerialsWrong : ChangeSpec := { name := "asidSerials", fn := fun _ => fun
  | [d] => { results := [.lit (.bool false)], args := [d] }
  | _ => none }
def AsidSerialsWrongFalsely : Prop := asidSerialsRow.holds Try.pinned (OpenSpec.ofChange asidSerialsWrong)

/-- 'seisinlaw19.AsidApart': WHATEVER THE INPUT: true; the input reads as it did. -/
def asidApartSpec : ChangeSpec := { name := "asidApart", fn := fun _ => fun
  | [d1, d2] => { results := [.lit (.bool true)], args := [d1, d2] }
  | _ => none }
def asidApartRow : OpenClaim := { program := "ytaomipfblcndlaa", sum := "5b1feba893b2720fce51d43cc626f8e53f3e0e5d2de0f40748e7833500203c10", func := "seisin/seisinlaw19.AsidApart", spec := "asidApart", unfollowed := true, recurses := true, apart := false }
def AsidApartSaid : Prop := asidApartRow.holds Try.pinned (OpenSpec.ofChange asidApartSpec)

/-- ITS FALSE NEIGHBOUR: 'it returns false'. Refute it at one input. -/
def asidApartWrong : ChangeSpec := { name := "asidApart", fn := fun _ => fun
  | [d1, d2] => { results := [.lit (.bool false)], args := [d1, d2] }
  | _ => none }
def AsidApartWrongFalsely : Prop := asidApartRow.holds Try.pinned (OpenSpec.ofChange asidApartWrong)

/-- 'seisinlaw19.AsidScript': WHATEVER THE INPUT: true; the input reads as it did. -/
def asidScriptSpec : ChangeSpec := { name := "asidScript", fn := fun _ => fun
  | [d] => { results := [.lit (.bool true)], args := [d] }
  | _ => none }
def asidScriptRow : OpenClaim := { program := "ytaomipfblcndlaa", sum := "5b1feba893b2720fce51d43cc626f8e53f3e0e5d2de0f40748e7833500203c10", func := "seisin/seisinlaw19.AsidScript", spec := "asidScript", unfollowed := true, recurses := true, apart := false }
def AsidScriptSaid : Prop := asidScriptRow.holds Try.pinned (OpenSpec.ofChange asidScriptSpec)

/-- ITS FALSE NEIGHBOUR: 'it returns false'. Refute it at one input. -/
def asidScriptWrong : ChangeSpec := { name := "asidScript", fn := fun _ => fun
  | [d] => { results := [.lit (.bool false)], args := [d] }
  | _ => none }
def AsidScriptWrongFalsely : Prop := asidScriptRow.holds Try.pinned (OpenSpec.ofChange asidScriptWrong)

/-- 'seisinlaw19.AsidNone': WHATEVER THE INPUT: true; the input reads as it did. -/
def asidNoneSpec : ChangeSpec := { name := "asidNone", fn := fun _ => fun
  | [d] => { results := [.lit (.bool true)], args := [d] }
  | _ => none }
def asidNoneRow : OpenClaim := { program := "ytaomipfblcndlaa", sum := "5b1feba893b2720fce51d43cc626f8e53f3e0e5d2de0f40748e7833500203c10", func := "seisin/seisinlaw19.AsidNone", spec := "asidNone", unfollowed := true, recurses := true, apart := false }
def AsidNoneSaid : Prop := asidNoneRow.holds Try.pinned (OpenSpec.ofChange asidNoneSpec)

/-- ITS FALSE NEIGHBOUR: 'it returns false'. Refute it at one input. -/
def asidNoneWrong : ChangeSpec := { name := "asidNone", fn := fun _ => fun
  | [d] => { results := [.lit (.bool false)], args := [d] }
  | _ => none }
def AsidNoneWrongFalsely : Prop := asidNoneRow.holds Try.pinned (OpenSpec.ofChange asidNoneWrong)

/- THE SECOND FORM. 'bulk': how many values and letters a reading holds, each counted each time it is reached (what is shared counts as often as it is met; a slice's spare places count too). A statement '..UptoSaid' is the law's where the arguments, and the package variables that the reading takes, are together of bulk at most 1048576: NARROWER than '..Said'. Prove '..Said' where nothing that the law and all that it calls make is longer than what came in: it says more and counts as full. Else prove '..UptoSaid'. A law counts once. -/
mutual
def uptoBulk {H : Type} : DataW H → Nat
  | .lit (.string bytes) => bytes.length + 1
  | .lit _ => 1
  | .nil => 1
  | .ptr d => uptoBulk d + 1
  | .slice elems spare => uptoBulkAll elems + uptoBulkAll spare + 1
  | .agg parts => uptoBulkAll parts + 1
  | .iface _ d => uptoBulk d + 1
  | .map entries => uptoBulkEntries entries + 1
  | .held _ => 1
def uptoBulkAll {H : Type} : List (DataW H) → Nat
  | [] => 0
  | d :: r => uptoBulk d + uptoBulkAll r
def uptoBulkEntries {H : Type} : List (Lit × DataW H) → Nat
  | [] => 0
  | x :: r => uptoBulkEntry x + uptoBulkEntries r
def uptoBulkEntry {H : Type} : Lit × DataW H → Nat
  | (.string bytes, d) => bytes.length + uptoBulk d + 1
  | (_, d) => uptoBulk d + 1
 end
def uptoSmall : (H : Type) → List (DataW H) → Bool := fun _ ds => decide (uptoBulkAll ds ≤ 1048576)
def OpenSpec.upto (s : _root_.Go.ChangeSpec) : _root_.Go.OpenSpec := { _root_.Go.OpenSpec.ofChange s with cond := some uptoSmall }

/-- 'seisinlaw19.AsidAll', WHERE WHAT IT READS IS OF BULK AT MOST 1048576: true; the input reads as it did. -/
def asidAllUptoRow : OpenClaim := { program := "ytaomipfblcndlaa", sum := "5b1feba893b2720fce51d43cc626f8e53f3e0e5d2de0f40748e7833500203c10", func := "seisin/seisinlaw19.AsidAll", spec := "asidAll", unfollowed := true, recurses := true, apart := false, narrowed := true }
def AsidAllUptoSaid : Prop := asidAllUptoRow.holds Try.pinned (OpenSpec.upto asidAllSpec)

/-- 'seisinlaw19.AsidSerials', WHERE WHAT IT READS IS OF BULK AT MOST 1048576: true; the input reads as it did. -/
def asidSerialsUptoRow : OpenClaim := { program := "ytaomipfblcndlaa", sum := "5b1feba893b2720fce51d43cc626f8e53f3e0e5d2de0f40748e7833500203c10", func := "seisin/seisinlaw19.AsidSerials", spec := "asidSerials", unfollowed := true, recurses := true, apart := false, narrowed := true }
def AsidSerialsUptoSaid : Prop := asidSerialsUptoRow.holds Try.pinned (OpenSpec.upto asidSerialsSpec)

/-- 'seisinlaw19.AsidApart', WHERE WHAT IT READS IS OF BULK AT MOST 1048576: true; the input reads as it did. -/
def asidApartUptoRow : OpenClaim := { program := "ytaomipfblcndlaa", sum := "5b1feba893b2720fce51d43cc626f8e53f3e0e5d2de0f40748e7833500203c10", func := "seisin/seisinlaw19.AsidApart", spec := "asidApart", unfollowed := true, recurses := true, apart := false, narrowed := true }
def AsidApartUptoSaid : Prop := asidApartUptoRow.holds Try.pinned (OpenSpec.upto asidApartSpec)

/-- 'seisinlaw19.AsidScript', WHERE WHAT IT READS IS OF BULK AT MOST 1048576: true; the input reads as it did. -/
def asidScriptUptoRow : OpenClaim := { program := "ytaomipfblcndlaa", sum := "5b1feba893b2720fce51d43cc626f8e53f3e0e5d2de0f40748e7833500203c10", func := "seisin/seisinlaw19.AsidScript", spec := "asidScript", unfollowed := true, recurses := true, apart := false, narrowed := true }
def AsidScriptUptoSaid : Prop := asidScriptUptoRow.holds Try.pinned (OpenSpec.upto asidScriptSpec)

/-- 'seisinlaw19.AsidNone', WHERE WHAT IT READS IS OF BULK AT MOST 1048576: true; the input reads as it did. -/
def asidNoneUptoRow : OpenClaim := { program := "ytaomipfblcndlaa", sum := "5b1feba893b2720fce51d43cc626f8e53f3e0e5d2de0f40748e7833500203c10", func := "seisin/seisinlaw19.AsidNone", spec := "asidNone", unfollowed := true, recurses := true, apart := false, narrowed := true }
def AsidNoneUptoSaid : Prop := asidNoneUptoRow.holds Try.pinned (OpenSpec.upto asidNoneSpec)

end Rows
end Go.Proofs.Ytaomipfblcndlaa
