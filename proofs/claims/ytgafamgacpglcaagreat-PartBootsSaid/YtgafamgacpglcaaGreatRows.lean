/-
  No cell of these rows narrows 'for every input' (looked for: loops, veiled, ifaces, maps, wideKeys, modest, calm, conditions, laid).
  DERIVED. THE GIVEN ROWS OF THIS SEAT. 3 by the template 'for every input the law returns true; each argument reads behind the call as it read before'; 0 by the template 'total and deterministic' (their statements: YtgafamgacpglcaaGreatTotals.lean).
  GIVEN WITH THE SEED: the statements are not yours to turn. If you find one false, say at which input.
  Laid BY PROGRAM, IN A SANDBOX (cutbox-rows.mjs): the forced cells as the released guide's own fill.sh prints them over the translation 301f28309e70ab29… (all of the seat's roots in one cut). By AI agents, Wed Nov 11 2026. No macro, syntax, notation, axiom, sorry.
-/
import Derived.Test.YtgafamgacpglcaaGreatChecked
import GoSem.Claim
import GoSem.ClaimJoined
import GoSem.ClaimMapViews
import Derived.JoinedTies
import Derived.KernelRfl
namespace Go.Proofs.YtgafamgacpglcaaGreat
/- THE CELL 'sum', in the pinned program and in every row, IS THE sha256 OF THE DUMP (.gsa) THAT YtgafamgacpglcaaGreatProg.lean LOADS. Nothing in Lean hashes anything: it is a label: what it is worth is what the hold of that sum in a sandbox is worth. -/
noncomputable def Tryz.pinned : Pinned := { name := "ytgafamgacpglcaagreat", sum := "301f28309e70ab29fbe031c0f65607f7a4ada51be820773ca34ec1cd4d5e1f6f", checked := Tryz.checked }
namespace Rows
def none {H : Type} : Left H := { results := [], args := [] }

/-- 'seisinlaw34.PartBoth': WHATEVER THE INPUT: true; the input reads as it did. -/
def partBothSpec : ChangeSpec := { name := "partBoth", fn := fun _ => fun
  | [d1, d2, d3] => { results := [.lit (.bool true)], args := [d1, d2, d3] }
  | _ => none }
def partBothRow : OpenClaim := { program := "ytgafamgacpglcaagreat", sum := "301f28309e70ab29fbe031c0f65607f7a4ada51be820773ca34ec1cd4d5e1f6f", func := "seisin/seisinlaw34.PartBoth", spec := "partBoth", inPlace := ["slices.overlaps[seisin/api.Object]", "maps.clone"], unfollowed := true, recurses := true, plainKeys := false, apart := false }
def PartBothSaid : Prop := partBothRow.holds Tryz.pinned (OpenSpec.ofChange partBothSpec)

/-- ITS FALSE NEIGHBOUR: 'it returns false'. Refute it at one input. -/
def partBothWrong : ChangeSpec := { name := "partBoth", fn := fun _ => fun
  | [d1, d2, d3] => { results := [.lit (.bool false)], args := [d1, d2, d3] }
  | _ => none }
def PartBothWrongFalsely : Prop := partBothRow.holds Tryz.pinned (OpenSpec.ofChange partBothWrong)

/-- 'seisinlaw34.PartBoots': WHATEVER THE INPUT: true; the input reads as it did. -/
def partBootsSpec : ChangeSpec := { name := "partBoots", fn := fun _ => fun
  | [d1, d2] => { results := [.lit (.bool true)], args := [d1, d2] }
  | _ => none }
def partBootsRow : OpenClaim := { program := "ytgafamgacpglcaagreat", sum := "301f28309e70ab29fbe031c0f65607f7a4ada51be820773ca34ec1cd4d5e1f6f", func := "seisin/seisinlaw34.PartBoots", spec := "partBoots", inPlace := ["slices.overlaps[seisin/api.Object]", "maps.clone"], unfollowed := true, recurses := true, plainKeys := false, apart := false }
def PartBootsSaid : Prop := partBootsRow.holds Tryz.pinned (OpenSpec.ofChange partBootsSpec)

/-- ITS FALSE NEIGHBOUR: 'it returns false'. Refute it at one input. -/
def partBootsWrong : ChangeSpec := { name := "partBoots", fn := fun _ => fun
  | [d1, d2] => { results := [.lit (.bool false)], args := [d1, d2] }
  | _ => none }
def PartBootsWrongFalsely : Prop := partBootsRow.holds Tryz.pinned (OpenSpec.ofChange partBootsWrong)

/-- 'seisinlaw34.PartGrows': WHATEVER THE INPUT: true; the input reads as it did. -/
def partGrowsSpec : ChangeSpec := { name := "partGrows", fn := fun _ => fun
  | [d1, d2, d3] => { results := [.lit (.bool true)], args := [d1, d2, d3] }
  | _ => none }
def partGrowsRow : OpenClaim := { program := "ytgafamgacpglcaagreat", sum := "301f28309e70ab29fbe031c0f65607f7a4ada51be820773ca34ec1cd4d5e1f6f", func := "seisin/seisinlaw34.PartGrows", spec := "partGrows", inPlace := ["slices.overlaps[seisin/api.Object]", "maps.clone"], unfollowed := true, recurses := true, plainKeys := false, apart := false }
def PartGrowsSaid : Prop := partGrowsRow.holds Tryz.pinned (OpenSpec.ofChange partGrowsSpec)

/-- ITS FALSE NEIGHBOUR: 'it returns false'. Refute it at one input. -/
def partGrowsWrong : ChangeSpec := { name := "partGrows", fn := fun _ => fun
  | [d1, d2, d3] => { results := [.lit (.bool false)], args := [d1, d2, d3] }
  | _ => none }
def PartGrowsWrongFalsely : Prop := partGrowsRow.holds Tryz.pinned (OpenSpec.ofChange partGrowsWrong)

/- THE SECOND FORM. 'bulk': how many values and letters a reading holds, each counted each time it is reached (what is shared counts as often as it is met; a slice's spare places count too). A statement '..UptoSaid' is the law's where the arguments, and the package variables that the reading takes, are together of bulk at most 1048576: NARROWER than '..Said'. Prove '..Said' where nothing that the law and all that it calls make is longer than what came in: it says more and counts as full. Else prove '..UptoSaid'. A law counts once. -/
mutual
def uptoBulk {H : Type} : DataW H → Nat
  | .lit (.string bytes) => bytes.length + 1
  | .lit _ => 1
  | .nil => 1
  | .ptr d => uptoBulk d + 1
  | .slice elems spare => uptoBulkAll elems + uptoBulkAll spare + 1
  | .agg parts => uptoBulkAll parts + 1
  | .iface _ d => uptoBulk d + 1
  | .map entries => uptoBulkEntries entries + 1
  | .held _ => 1
def uptoBulkAll {H : Type} : List (DataW H) → Nat
  | [] => 0
  | d :: r => uptoBulk d + uptoBulkAll r
def uptoBulkEntries {H : Type} : List (Lit × DataW H) → Nat
  | [] => 0
  | x :: r => uptoBulkEntry x + uptoBulkEntries r
def uptoBulkEntry {H : Type} : Lit × DataW H → Nat
  | (.string bytes, d) => bytes.length + uptoBulk d + 1
  | (_, d) => uptoBulk d + 1
 end
def uptoSmall : (H : Type) → List (DataW H) → Bool := fun _ ds => decide (uptoBulkAll ds ≤ 1048576)
def OpenSpec.upto (s : _root_.Go.ChangeSpec) : _root_.Go.OpenSpec := { _root_.Go.OpenSpec.ofChange s with cond := some uptoSmall }

/-- 'seisinlaw34.PartBoth', WHERE WHAT IT READS IS OF BULK AT MOST 1048576: true; the input reads as it did. -/
def partBothUptoRow : OpenClaim := { program := "ytgafamgacpglcaagreat", sum := "301f28309e70ab29fbe031c0f65607f7a4ada51be820773ca34ec1cd4d5e1f6f", func := "seisin/seisinlaw34.PartBoth", spec := "partBoth", inPlace := ["slices.overlaps[seisin/api.Object]", "maps.clone"], unfollowed := true, recurses := true, plainKeys := false, apart := false, narrowed := true }
def PartBothUptoSaid : Prop := partBothUptoRow.holds Tryz.pinned (OpenSpec.upto partBothSpec)

/-- 'seisinlaw34.PartBoots', WHERE WHAT IT READS IS OF BULK AT MOST 1048576: true; the input reads as it did. -/
def partBootsUptoRow : OpenClaim := { program := "ytgafamgacpglcaagreat", sum := "301f28309e70ab29fbe031c0f65607f7a4ada51be820773ca34ec1cd4d5e1f6f", func := "seisin/seisinlaw34.PartBoots", spec := "partBoots", inPlace := ["slices.overlaps[seisin/api.Object]", "maps.clone"], unfollowed := true, recurses := true, plainKeys := false, apart := false, narrowed := true }
def PartBootsUptoSaid : Prop := partBootsUptoRow.holds Tryz.pinned (OpenSpec.upto partBootsSpec)

/-- 'seisinlaw34.PartGrows', WHERE WHAT IT READS IS OF BULK AT MOST 1048576: true; the input reads as it did. -/
def partGrowsUptoRow : OpenClaim := { program := "ytgafamgacpglcaagreat", sum := "301f28309e70ab29fbe031c0f65607f7a4ada51be820773ca34ec1cd4d5e1f6f", func := "seisin/seisinlaw34.PartGrows", spec := "partGrows", inPlace := ["slices.overlaps[seisin/api.Object]", "maps.clone"], unfollowed := true, recurses := true, plainKeys := false, apart := false, narrowed := true }
def PartGrowsUptoSaid : Prop := partGrowsUptoRow.holds Tryz.pinned (OpenSpec.upto partGrowsSpec)

end Rows
end Go.Proofs.YtgafamgacpglcaaGreat
