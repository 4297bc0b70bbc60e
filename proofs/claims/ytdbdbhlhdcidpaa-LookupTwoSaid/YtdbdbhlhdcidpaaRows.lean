/-
  No cell of these rows narrows 'for every input' (looked for: loops, veiled, ifaces, maps, wideKeys, modest, calm, conditions, laid).
  DERIVED. THE GIVEN ROWS OF THIS SEAT. 5 by the template 'for every input the law returns true; each argument reads behind the call as it read before'; 0 by the template 'total and deterministic' (their statements: YtdbdbhlhdcidpaaTotals.lean).
  GIVEN WITH THE SEED: the statements are not yours to turn. If you find one false, say at which input.
  Laid BY PROGRAM, IN A SANDBOX (cutbox-rows.mjs): the forced cells as the released guide's own fill.sh prints them over the translation 30cb4534b3863aaa… (all of the seat's roots in one cut). By AI agents, Wed Nov 11 2026. No macro, syntax, notation, axiom, sorry.
-/
import Derived.Test.YtdbdbhlhdcidpaaChecked
import GoSem.Claim
import GoSem.ClaimJoined
import GoSem.ClaimMapViews
import Derived.JoinedTies
import Derived.KernelRfl
namespace Go.Proofs.Ytdbdbhlhdcidpaa
/- THE CELL 'sum', in the pinned program and in every row, IS THE sha256 OF THE DUMP (.gsa) THAT YtdbdbhlhdcidpaaProg.lean LOADS. Nothing in Lean hashes anything: it is a label: what it is worth is what the hold of that sum in a sandbox is worth. -/
noncomputable def Try.pinned : Pinned := { name := "ytdbdbhlhdcidpaa", sum := "30cb4534b3863aaabc9c7792b494d0ff1cd2c533dcce1211df1cc317c558963a", checked := Try.checked }
namespace Rows
def none {H : Type} : Left H := { results := [], args := [] }

/-- 'seisinlaw16.LookupAll': WHATEVER THE INPUT: true; the input reads as it did. -/
def lookupAllSpec : ChangeSpec := { name := "lookupAll", fn := fun _ => fun
  | [d1, d2, d3] => { results := [.lit (.bool true)], args := [d1, d2, d3] }
  | _ => none }
def lookupAllRow : OpenClaim := { program := "ytdbdbhlhdcidpaa", sum := "30cb4534b3863aaabc9c7792b494d0ff1cd2c533dcce1211df1cc317c558963a", func := "seisin/seisinlaw16.LookupAll", spec := "lookupAll", inPlace := ["slices.overlaps[seisin/api.Object]"], unfollowed := true, recurses := true, apart := false }
def LookupAllSaid : Prop := lookupAllRow.holds Try.pinned (OpenSpec.ofChange lookupAllSpec)

/-- ITS FALSE NEIGHBOUR: 'it returns false'. Refute it at one input. -/
def lookupAllWrong : ChangeSpec := { name := "lookupAll", fn := fun _ => fun
  | [d1, d2, d3] => { results := [.lit (.bool false)], args := [d1, d2, d3] }
  | _ => none }
def LookupAllWrongFalsely : Prop := lookupAllRow.holds Try.pinned (OpenSpec.ofChange lookupAllWrong)

/-- 'seisinlaw16.LookupTwo': WHATEVER THE INPUT: true; the input reads as it did. -/
def lookupTwoSpec : ChangeSpec := { name := "lookupTwo", fn := fun _ => fun
  | [d1, d2, d3] => { results := [.lit (.bool true)], args := [d1, d2, d3] }
  | _ => none }
def lookupTwoRow : OpenClaim := { program := "ytdbdbhlhdcidpaa", sum := "30cb4534b3863aaabc9c7792b494d0ff1cd2c533dcce1211df1cc317c558963a", func := "seisin/seisinlaw16.LookupTwo", spec := "lookupTwo", inPlace := ["slices.overlaps[seisin/api.Object]"], unfollowed := true, recurses := true, apart := false }
def LookupTwoSaid : Prop := lookupTwoRow.holds Try.pinned (OpenSpec.ofChange lookupTwoSpec)

/-- ITS FALSE NEIGHBOUR: 'it returns false'. Refute it at one input. -/
def lookupTwoWrong : ChangeSpec := { name := "lookupTwo", fn := fun _ => fun
  | [d1, d2, d3] => { results := [.lit (.bool false)], args := [d1, d2, d3] }
  | _ => none }
def LookupTwoWrongFalsely : Prop := lookupTwoRow.holds Try.pinned (OpenSpec.ofChange lookupTwoWrong)

/-- 'seisinlaw16.LookupFinds': WHATEVER THE INPUT: true; the input reads as it did. -/
def lookupFindsSpec : ChangeSpec := { name := "lookupFinds", fn := fun _ => fun
  | [d1, d2, d3, d4] => { results := [.lit (.bool true)], args := [d1, d2, d3, d4] }
  | _ => none }
def lookupFindsRow : OpenClaim := { program := "ytdbdbhlhdcidpaa", sum := "30cb4534b3863aaabc9c7792b494d0ff1cd2c533dcce1211df1cc317c558963a", func := "seisin/seisinlaw16.LookupFinds", spec := "lookupFinds", inPlace := ["slices.overlaps[seisin/api.Object]"], unfollowed := true, recurses := true, apart := false }
def LookupFindsSaid : Prop := lookupFindsRow.holds Try.pinned (OpenSpec.ofChange lookupFindsSpec)

/-- ITS FALSE NEIGHBOUR: 'it returns false'. Refute it at one input. -/
def lookupFindsWrong : ChangeSpec := { name := "lookupFinds", fn := fun _ => fun
  | [d1, d2, d3, d4] => { results := [.lit (.bool false)], args := [d1, d2, d3, d4] }
  | _ => none }
def LookupFindsWrongFalsely : Prop := lookupFindsRow.holds Try.pinned (OpenSpec.ofChange lookupFindsWrong)

/-- 'seisinlaw16.LookupLast': WHATEVER THE INPUT: true; the input reads as it did. -/
def lookupLastSpec : ChangeSpec := { name := "lookupLast", fn := fun _ => fun
  | [d1, d2, d3, d4] => { results := [.lit (.bool true)], args := [d1, d2, d3, d4] }
  | _ => none }
def lookupLastRow : OpenClaim := { program := "ytdbdbhlhdcidpaa", sum := "30cb4534b3863aaabc9c7792b494d0ff1cd2c533dcce1211df1cc317c558963a", func := "seisin/seisinlaw16.LookupLast", spec := "lookupLast", inPlace := ["slices.overlaps[seisin/api.Object]"], unfollowed := true, recurses := true, apart := false }
def LookupLastSaid : Prop := lookupLastRow.holds Try.pinned (OpenSpec.ofChange lookupLastSpec)

/-- ITS FALSE NEIGHBOUR: 'it returns false'. Refute it at one input. -/
def lookupLastWrong : ChangeSpec := { name := "lookupLast", fn := fun _ => fun
  | [d1, d2, d3, d4] => { results := [.lit (.bool false)], args := [d1, d2, d3, d4] }
  | _ => none }
def LookupLastWrongFalsely : Prop := lookupLastRow.holds Try.pinned (OpenSpec.ofChange lookupLastWrong)

/-- 'seisinlaw16.LookupNone': WHATEVER THE INPUT: true; the input reads as it did. -/
def lookupNoneSpec : ChangeSpec := { name := "lookupNone", fn := fun _ => fun
  | [d1, d2, d3] => { results := [.lit (.bool true)], args := [d1, d2, d3] }
  | _ => none }
def lookupNoneRow : OpenClaim := { program := "ytdbdbhlhdcidpaa", sum := "30cb4534b3863aaabc9c7792b494d0ff1cd2c533dcce1211df1cc317c558963a", func := "seisin/seisinlaw16.LookupNone", spec := "lookupNone", inPlace := ["slices.overlaps[seisin/api.Object]"], unfollowed := true, recurses := true, apart := false }
def LookupNoneSaid : Prop := lookupNoneRow.holds Try.pinned (OpenSpec.ofChange lookupNoneSpec)

/-- ITS FALSE NEIGHBOUR: 'it returns false'. Refute it at one input. -/
def lookupNoneWrong : ChangeSpec := { name := "lookupNone", fn := fun _ => fun
  | [d1, d2, d3] => { results := [.lit (.bool false)], args := [d1, d2, d3] }
  | _ => none }
def LookupNoneWrongFalsely : Prop := lookupNoneRow.holds Try.pinned (OpenSpec.ofChange lookupNoneWrong)

/- THE SECOND FORM. 'bulk': how many values and letters a reading holds, each counted each time it is reached (what is shared counts as often as it is met; a slice's spare places count too). A statement '..UptoSaid' is the law's where the arguments, and the package variables that the reading takes, are together of bulk at most 1048576: NARROWER than '..Said'. Prove '..Said' where nothing that the law and all that it calls make is longer than what came in: it says more and counts as full. Else prove '..UptoSaid'. A law counts once. -/
mutual
def uptoBulk {H : Type} : DataW H → Nat
  | .lit (.string bytes) => bytes.length + 1
  | .lit _ => 1
  | .nil => 1
  | .ptr d => uptoBulk d + 1
  | .slice elems spare => uptoBulkAll elems + uptoBulkAll spare + 1
  | .agg parts => uptoBulkAll parts + 1
  | .iface _ d => uptoBulk d + 1
  | .map entries => uptoBulkEntries entries + 1
  | .held _ => 1
def uptoBulkAll {H : Type} : List (DataW H) → Nat
  | [] => 0
  | d :: r => uptoBulk d + uptoBulkAll r
def uptoBulkEntries {H : Type} : List (Lit × DataW H) → Nat
  | [] => 0
  | x :: r => uptoBulkEntry x + uptoBulkEntries r
def uptoBulkEntry {H : Type} : Lit × DataW H → Nat
  | (.string bytes, d) => bytes.length + uptoBulk d + 1
  | (_, d) => uptoBulk d + 1
 end
def uptoSmall : (H : Type) → List (DataW H) → Bool := fun _ ds => decide (uptoBulkAll ds ≤ 1048576)
def OpenSpec.upto (s : _root_.Go.ChangeSpec) : _root_.Go.OpenSpec := { _root_.Go.OpenSpec.ofChange s with cond := some uptoSmall }

/-- 'seisinlaw16.LookupAll', WHERE WHAT IT READS IS OF BULK AT MOST 1048576: true; the input reads as it did. -/
def lookupAllUptoRow : OpenClaim := { program := "ytdbdbhlhdcidpaa", sum := "30cb4534b3863aaabc9c7792b494d0ff1cd2c533dcce1211df1cc317c558963a", func := "seisin/seisinlaw16.LookupAll", spec := "lookupAll", inPlace := ["slices.overlaps[seisin/api.Object]"], unfollowed := true, recurses := true, apart := false, narrowed := true }
def LookupAllUptoSaid : Prop := lookupAllUptoRow.holds Try.pinned (OpenSpec.upto lookupAllSpec)

/-- 'seisinlaw16.LookupTwo', WHERE WHAT IT READS IS OF BULK AT MOST 1048576: true; the input reads as it did. -/
def lookupTwoUptoRow : OpenClaim := { program := "ytdbdbhlhdcidpaa", sum := "30cb4534b3863aaabc9c7792b494d0ff1cd2c533dcce1211df1cc317c558963a", func := "seisin/seisinlaw16.LookupTwo", spec := "lookupTwo", inPlace := ["slices.overlaps[seisin/api.Object]"], unfollowed := true, recurses := true, apart := false, narrowed := true }
def LookupTwoUptoSaid : Prop := lookupTwoUptoRow.holds Try.pinned (OpenSpec.upto lookupTwoSpec)

/-- 'seisinlaw16.LookupFinds', WHERE WHAT IT READS IS OF BULK AT MOST 1048576: true; the input reads as it did. -/
def lookupFindsUptoRow : OpenClaim := { program := "ytdbdbhlhdcidpaa", sum := "30cb4534b3863aaabc9c7792b494d0ff1cd2c533dcce1211df1cc317c558963a", func := "seisin/seisinlaw16.LookupFinds", spec := "lookupFinds", inPlace := ["slices.overlaps[seisin/api.Object]"], unfollowed := true, recurses := true, apart := false, narrowed := true }
def LookupFindsUptoSaid : Prop := lookupFindsUptoRow.holds Try.pinned (OpenSpec.upto lookupFindsSpec)

/-- 'seisinlaw16.LookupLast', WHERE WHAT IT READS IS OF BULK AT MOST 1048576: true; the input reads as it did. -/
def lookupLastUptoRow : OpenClaim := { program := "ytdbdbhlhdcidpaa", sum := "30cb4534b3863aaabc9c7792b494d0ff1cd2c533dcce1211df1cc317c558963a", func := "seisin/seisinlaw16.LookupLast", spec := "lookupLast", inPlace := ["slices.overlaps[seisin/api.Object]"], unfollowed := true, recurses := true, apart := false, narrowed := true }
def LookupLastUptoSaid : Prop := lookupLastUptoRow.holds Try.pinned (OpenSpec.upto lookupLastSpec)

/-- 'seisinlaw16.LookupNone', WHERE WHAT IT READS IS OF BULK AT MOST 1048576: true; the input reads as it did. -/
def lookupNoneUptoRow : OpenClaim := { program := "ytdbdbhlhdcidpaa", sum := "30cb4534b3863aaabc9c7792b494d0ff1cd2c533dcce1211df1cc317c558963a", func := "seisin/seisinlaw16.LookupNone", spec := "lookupNone", inPlace := ["slices.overlaps[seisin/api.Object]"], unfollowed := true, recurses := true, apart := false, narrowed := true }
def LookupNoneUptoSaid : Prop := lookupNoneUptoRow.holds Try.pinned (OpenSpec.upto lookupNoneSpec)

end Rows
end Go.Proofs.Ytdbdbhlhdcidpaa
