/-
  No cell of these rows narrows 'for every input' (looked for: loops, veiled, ifaces, maps, wideKeys, modest, calm, conditions, laid).
  DERIVED. THE GIVEN ROWS OF THIS SEAT. 12 by the template 'for every input the law returns true; each argument reads behind the call as it read before'; 0 by the template 'total and deterministic' (their statements: YtlifcingifodfaaGreatTotals.lean).
  GIVEN WITH THE SEED: the statements are not yours to turn. If you find one false, say at which input.
  Laid BY PROGRAM, IN A SANDBOX (cutbox-rows.mjs): the forced cells as the released guide's own fill.sh prints them over the translation 80c67f37324cf253… (all of the seat's roots in one cut). By AI agents, Wed Nov 11 2026. No macro, syntax, notation, axiom, sorry.
-/
import Derived.Test.YtlifcingifodfaaGreatChecked
import GoSem.Claim
import GoSem.ClaimJoined
import GoSem.ClaimMapViews
import Derived.JoinedTies
import Derived.KernelRfl
namespace Go.Proofs.YtlifcingifodfaaGreat
/- THE CELL 'sum', in the pinned program and in every row, IS THE sha256 OF THE DUMP (.gsa) THAT YtlifcingifodfaaGreatProg.lean LOADS. Nothing in Lean hashes anything: it is a label: what it is worth is what the hold of that sum in a sandbox is worth. -/
noncomputable def Tryz.pinned : Pinned := { name := "ytlifcingifodfaagreat", sum := "80c67f37324cf2533d9c77eba9ffa5043b3eb8785175d0c23c2208dfb44127e2", checked := Tryz.checked }
namespace Rows
def none {H : Type} : Left H := { results := [], args := [] }

/-- 'seisintop.TopBudget': WHATEVER THE INPUT: true; the input reads as it did. -/
def topBudgetSpec : ChangeSpec := { name := "topBudget", fn := fun _ => fun
  | [d1, d2, d3, d4] => { results := [.lit (.bool true)], args := [d1, d2, d3, d4] }
  | _ => none }
def topBudgetRow : OpenClaim := { program := "ytlifcingifodfaagreat", sum := "80c67f37324cf2533d9c77eba9ffa5043b3eb8785175d0c23c2208dfb44127e2", func := "seisin/seisintop.TopBudget", spec := "topBudget", inPlace := ["slices.overlaps[seisin/api.Object]"], unfollowed := true, recurses := true, plainKeys := false, apart := false }
def TopBudgetSaid : Prop := topBudgetRow.holds Tryz.pinned (OpenSpec.ofChange topBudgetSpec)

/-- ITS FALSE NEIGHBOUR: 'it returns false'. Refute it at one input. -/
def topBudgetWrong : ChangeSpec := { name := "topBudget", fn := fun _ => fun
  | [d1, d2, d3, d4] => { results := [.lit (.bool false)], args := [d1, d2, d3, d4] }
  | _ => none }
def TopBudgetWrongFalsely : Prop := topBudgetRow.holds Tryz.pinned (OpenSpec.ofChange topBudgetWrong)

/-- 'seisintop.TopPager': WHATEVER THE INPUT: true; the input reads as it did. -/
def topPagerSpec : ChangeSpec := { name := "topPager", fn := fun _ => fun
  | [d1, d2, d3, d4, d5] => { results := [.lit (.bool true)], args := [d1, d2, d3, d4, d5] }
  | _ => none }
def topPagerRow : OpenClaim := { program := "ytlifcingifodfaagreat", sum := "80c67f37324cf2533d9c77eba9ffa5043b3eb8785175d0c23c2208dfb44127e2", func := "seisin/seisintop.TopPager", spec := "topPager", inPlace := ["slices.overlaps[seisin/api.Object]"], unfollowed := true, recurses := true, plainKeys := false, apart := false }
def TopPagerSaid : Prop := topPagerRow.holds Tryz.pinned (OpenSpec.ofChange topPagerSpec)

/-- ITS FALSE NEIGHBOUR: 'it returns false'. Refute it at one input. -/
def topPagerWrong : ChangeSpec := { name := "topPager", fn := fun _ => fun
  | [d1, d2, d3, d4, d5] => { results := [.lit (.bool false)], args := [d1, d2, d3, d4, d5] }
  | _ => none }
def TopPagerWrongFalsely : Prop := topPagerRow.holds Tryz.pinned (OpenSpec.ofChange topPagerWrong)

/-- 'seisintop.TopBegins': WHATEVER THE INPUT: true; the input reads as it did. -/
def topBeginsSpec : ChangeSpec := { name := "topBegins", fn := fun _ => fun
  | [d1, d2] => { results := [.lit (.bool true)], args := [d1, d2] }
  | _ => none }
def topBeginsRow : OpenClaim := { program := "ytlifcingifodfaagreat", sum := "80c67f37324cf2533d9c77eba9ffa5043b3eb8785175d0c23c2208dfb44127e2", func := "seisin/seisintop.TopBegins", spec := "topBegins", inPlace := ["slices.overlaps[seisin/api.Object]"], unfollowed := true, recurses := true, plainKeys := false, apart := false }
def TopBeginsSaid : Prop := topBeginsRow.holds Tryz.pinned (OpenSpec.ofChange topBeginsSpec)

/-- ITS FALSE NEIGHBOUR: 'it returns false'. Refute it at one input. -/
def topBeginsWrong : ChangeSpec := { name := "topBegins", fn := fun _ => fun
  | [d1, d2] => { results := [.lit (.bool false)], args := [d1, d2] }
  | _ => none }
def TopBeginsWrongFalsely : Prop := topBeginsRow.holds Tryz.pinned (OpenSpec.ofChange topBeginsWrong)

/-- 'seisintop.TopAlone': WHATEVER THE INPUT: true; the input reads as it did. -/
def topAloneSpec : ChangeSpec := { name := "topAlone", fn := fun _ => fun
  | [d1, d2, d3] => { results := [.lit (.bool true)], args := [d1, d2, d3] }
  | _ => none }
def topAloneRow : OpenClaim := { program := "ytlifcingifodfaagreat", sum := "80c67f37324cf2533d9c77eba9ffa5043b3eb8785175d0c23c2208dfb44127e2", func := "seisin/seisintop.TopAlone", spec := "topAlone", inPlace := ["slices.overlaps[seisin/api.Object]"], unfollowed := true, recurses := true, plainKeys := false, apart := false }
def TopAloneSaid : Prop := topAloneRow.holds Tryz.pinned (OpenSpec.ofChange topAloneSpec)

/-- ITS FALSE NEIGHBOUR: 'it returns false'. Refute it at one input. -/
def topAloneWrong : ChangeSpec := { name := "topAlone", fn := fun _ => fun
  | [d1, d2, d3] => { results := [.lit (.bool false)], args := [d1, d2, d3] }
  | _ => none }
def TopAloneWrongFalsely : Prop := topAloneRow.holds Tryz.pinned (OpenSpec.ofChange topAloneWrong)

/-- 'seisintop.TopRows': WHATEVER THE INPUT: true; the input reads as it did. -/
def topRowsSpec : ChangeSpec := { name := "topRows", fn := fun _ => fun
  | [d1, d2] => { results := [.lit (.bool true)], args := [d1, d2] }
  | _ => none }
def topRowsRow : OpenClaim := { program := "ytlifcingifodfaagreat", sum := "80c67f37324cf2533d9c77eba9ffa5043b3eb8785175d0c23c2208dfb44127e2", func := "seisin/seisintop.TopRows", spec := "topRows", inPlace := ["slices.overlaps[seisin/api.Object]"], unfollowed := true, recurses := true, plainKeys := false, apart := false }
def TopRowsSaid : Prop := topRowsRow.holds Tryz.pinned (OpenSpec.ofChange topRowsSpec)

/-- ITS FALSE NEIGHBOUR: 'it returns false'. Refute it at one input. -/
def topRowsWrong : ChangeSpec := { name := "topRows", fn := fun _ => fun
  | [d1, d2] => { results := [.lit (.bool false)], args := [d1, d2] }
  | _ => none }
def TopRowsWrongFalsely : Prop := topRowsRow.holds Tryz.pinned (OpenSpec.ofChange topRowsWrong)

/-- 'seisintop.TopFresh': WHATEVER THE INPUT: true; the input reads as it did. -/
def topFreshSpec : ChangeSpec := { name := "topFresh", fn := fun _ => fun
  | [d1, d2] => { results := [.lit (.bool true)], args := [d1, d2] }
  | _ => none }
def topFreshRow : OpenClaim := { program := "ytlifcingifodfaagreat", sum := "80c67f37324cf2533d9c77eba9ffa5043b3eb8785175d0c23c2208dfb44127e2", func := "seisin/seisintop.TopFresh", spec := "topFresh", inPlace := ["slices.overlaps[seisin/api.Object]"], unfollowed := true, recurses := true, plainKeys := false, apart := false }
def TopFreshSaid : Prop := topFreshRow.holds Tryz.pinned (OpenSpec.ofChange topFreshSpec)

/-- ITS FALSE NEIGHBOUR: 'it returns false'. Refute it at one input. -/
def topFreshWrong : ChangeSpec := { name := "topFresh", fn := fun _ => fun
  | [d1, d2] => { results := [.lit (.bool false)], args := [d1, d2] }
  | _ => none }
def TopFreshWrongFalsely : Prop := topFreshRow.holds Tryz.pinned (OpenSpec.ofChange topFreshWrong)

/-- 'seisintop.TopCopied': WHATEVER THE INPUT: true; the input reads as it did. -/
def topCopiedSpec : ChangeSpec := { name := "topCopied", fn := fun _ => fun
  | [d1, d2, d3, d4, d5] => { results := [.lit (.bool true)], args := [d1, d2, d3, d4, d5] }
  | _ => none }
def topCopiedRow : OpenClaim := { program := "ytlifcingifodfaagreat", sum := "80c67f37324cf2533d9c77eba9ffa5043b3eb8785175d0c23c2208dfb44127e2", func := "seisin/seisintop.TopCopied", spec := "topCopied", inPlace := ["slices.overlaps[seisin/api.Object]"], unfollowed := true, recurses := true, plainKeys := false, apart := false }
def TopCopiedSaid : Prop := topCopiedRow.holds Tryz.pinned (OpenSpec.ofChange topCopiedSpec)

/-- ITS FALSE NEIGHBOUR: 'it returns false'. Refute it at one input. -/
def topCopiedWrong : ChangeSpec := { name := "topCopied", fn := fun _ => fun
  | [d1, d2, d3, d4, d5] => { results := [.lit (.bool false)], args := [d1, d2, d3, d4, d5] }
  | _ => none }
def TopCopiedWrongFalsely : Prop := topCopiedRow.holds Tryz.pinned (OpenSpec.ofChange topCopiedWrong)

/-- 'seisintop.TopUndone': WHATEVER THE INPUT: true; the input reads as it did. -/
def topUndoneSpec : ChangeSpec := { name := "topUndone", fn := fun _ => fun
  | [d1, d2, d3, d4, d5, d6] => { results := [.lit (.bool true)], args := [d1, d2, d3, d4, d5, d6] }
  | _ => none }
def topUndoneRow : OpenClaim := { program := "ytlifcingifodfaagreat", sum := "80c67f37324cf2533d9c77eba9ffa5043b3eb8785175d0c23c2208dfb44127e2", func := "seisin/seisintop.TopUndone", spec := "topUndone", inPlace := ["slices.overlaps[seisin/api.Object]"], unfollowed := true, recurses := true, plainKeys := false, apart := false }
def TopUndoneSaid : Prop := topUndoneRow.holds Tryz.pinned (OpenSpec.ofChange topUndoneSpec)

/-- ITS FALSE NEIGHBOUR: 'it returns false'. Refute it at one input. -/
def topUndoneWrong : ChangeSpec := { name := "topUndone", fn := fun _ => fun
  | [d1, d2, d3, d4, d5, d6] => { results := [.lit (.bool false)], args := [d1, d2, d3, d4, d5, d6] }
  | _ => none }
def TopUndoneWrongFalsely : Prop := topUndoneRow.holds Tryz.pinned (OpenSpec.ofChange topUndoneWrong)

/-- 'seisintop.TopAsked': WHATEVER THE INPUT: true; the input reads as it did. -/
def topAskedSpec : ChangeSpec := { name := "topAsked", fn := fun _ => fun
  | [d1, d2, d3] => { results := [.lit (.bool true)], args := [d1, d2, d3] }
  | _ => none }
def topAskedRow : OpenClaim := { program := "ytlifcingifodfaagreat", sum := "80c67f37324cf2533d9c77eba9ffa5043b3eb8785175d0c23c2208dfb44127e2", func := "seisin/seisintop.TopAsked", spec := "topAsked", inPlace := ["slices.overlaps[seisin/api.Object]"], unfollowed := true, recurses := true, plainKeys := false, apart := false }
def TopAskedSaid : Prop := topAskedRow.holds Tryz.pinned (OpenSpec.ofChange topAskedSpec)

/-- ITS FALSE NEIGHBOUR: 'it returns false'. Refute it at one input. -/
def topAskedWrong : ChangeSpec := { name := "topAsked", fn := fun _ => fun
  | [d1, d2, d3] => { results := [.lit (.bool false)], args := [d1, d2, d3] }
  | _ => none }
def TopAskedWrongFalsely : Prop := topAskedRow.holds Tryz.pinned (OpenSpec.ofChange topAskedWrong)

/-- 'seisintop.TopTurned': WHATEVER THE INPUT: true; the input reads as it did. -/
def topTurnedSpec : ChangeSpec := { name := "topTurned", fn := fun _ => fun
  | [d1, d2, d3] => { results := [.lit (.bool true)], args := [d1, d2, d3] }
  | _ => none }
def topTurnedRow : OpenClaim := { program := "ytlifcingifodfaagreat", sum := "80c67f37324cf2533d9c77eba9ffa5043b3eb8785175d0c23c2208dfb44127e2", func := "seisin/seisintop.TopTurned", spec := "topTurned", inPlace := ["slices.overlaps[seisin/api.Object]"], unfollowed := true, recurses := true, plainKeys := false, apart := false }
def TopTurnedSaid : Prop := topTurnedRow.holds Tryz.pinned (OpenSpec.ofChange topTurnedSpec)

/-- ITS FALSE NEIGHBOUR: 'it returns false'. Refute it at one input. -/
def topTurnedWrong : ChangeSpec := { name := "topTurned", fn := fun _ => fun
  | [d1, d2, d3] => { results := [.lit (.bool false)], args := [d1, d2, d3] }
  | _ => none }
def TopTurnedWrongFalsely : Prop := topTurnedRow.holds Tryz.pinned (OpenSpec.ofChange topTurnedWrong)

/-- 'seisintop.TopLeftOut': WHATEVER THE INPUT: true; the input reads as it did. -/
def topLeftOutSpec : ChangeSpec := { name := "topLeftOut", fn := fun _ => fun
  | [d1, d2] => { results := [.lit (.bool true)], args := [d1, d2] }
  | _ => none }
def topLeftOutRow : OpenClaim := { program := "ytlifcingifodfaagreat", sum := "80c67f37324cf2533d9c77eba9ffa5043b3eb8785175d0c23c2208dfb44127e2", func := "seisin/seisintop.TopLeftOut", spec := "topLeftOut", inPlace := ["slices.overlaps[seisin/api.Object]"], unfollowed := true, recurses := true, plainKeys := false, apart := false }
def TopLeftOutSaid : Prop := topLeftOutRow.holds Tryz.pinned (OpenSpec.ofChange topLeftOutSpec)

/-- ITS FALSE NEIGHBOUR: 'it returns false'. Refute it at one input. -/
def topLeftOutWrong : ChangeSpec := { name := "topLeftOut", fn := fun _ => fun
  | [d1, d2] => { results := [.lit (.bool false)], args := [d1, d2] }
  | _ => none }
def TopLeftOutWrongFalsely : Prop := topLeftOutRow.holds Tryz.pinned (OpenSpec.ofChange topLeftOutWrong)

/-- 'seisintop.TopReads': WHATEVER THE INPUT: true; the input reads as it did. -/
def topReadsSpec : ChangeSpec := { name := "topReads", fn := fun _ => fun
  | [d1, d2] => { results := [.lit (.bool true)], args := [d1, d2] }
  | _ => none }
def topReadsRow : OpenClaim := { program := "ytlifcingifodfaagreat", sum := "80c67f37324cf2533d9c77eba9ffa5043b3eb8785175d0c23c2208dfb44127e2", func := "seisin/seisintop.TopReads", spec := "topReads", inPlace := ["slices.overlaps[seisin/api.Object]"], unfollowed := true, recurses := true, plainKeys := false, apart := false }
def TopReadsSaid : Prop := topReadsRow.holds Tryz.pinned (OpenSpec.ofChange topReadsSpec)

/-- ITS FALSE NEIGHBOUR: 'it returns false'. Refute it at one input. -/
def topReadsWrong : ChangeSpec := { name := "topReads", fn := fun _ => fun
  | [d1, d2] => { results := [.lit (.bool false)], args := [d1, d2] }
  | _ => none }
def TopReadsWrongFalsely : Prop := topReadsRow.holds Tryz.pinned (OpenSpec.ofChange topReadsWrong)

/- THE SECOND FORM. 'bulk': how many values and letters a reading holds, each counted each time it is reached (what is shared counts as often as it is met; a slice's spare places count too). A statement '..UptoSaid' is the law's where the arguments, and the package variables that the reading takes, are together of bulk at most 1048576: NARROWER than '..Said'. Prove '..Said' where nothing that the law and all that it calls make is longer than what came in: it says more and counts as full. Else prove '..UptoSaid'. A law counts once. -/
mutual
def uptoBulk {H : Type} : DataW H → Nat
  | .lit (.string bytes) => bytes.length + 1
  | .lit _ => 1
  | .nil => 1
  | .ptr d => uptoBulk d + 1
  | .slice elems spare => uptoBulkAll elems + uptoBulkAll spare + 1
  | .agg parts => uptoBulkAll parts + 1
  | .iface _ d => uptoBulk d + 1
  | .map entries => uptoBulkEntries entries + 1
  | .held _ => 1
def uptoBulkAll {H : Type} : List (DataW H) → Nat
  | [] => 0
  | d :: r => uptoBulk d + uptoBulkAll r
def uptoBulkEntries {H : Type} : List (Lit × DataW H) → Nat
  | [] => 0
  | x :: r => uptoBulkEntry x + uptoBulkEntries r
def uptoBulkEntry {H : Type} : Lit × DataW H → Nat
  | (.string bytes, d) => bytes.length + uptoBulk d + 1
  | (_, d) => uptoBulk d + 1
 end
def uptoSmall : (H : Type) → List (DataW H) → Bool := fun _ ds => decide (uptoBulkAll ds ≤ 1048576)
def OpenSpec.upto (s : _root_.Go.ChangeSpec) : _root_.Go.OpenSpec := { _root_.Go.OpenSpec.ofChange s with cond := some uptoSmall }

/-- 'seisintop.TopBudget', WHERE WHAT IT READS IS OF BULK AT MOST 1048576: true; the input reads as it did. -/
def topBudgetUptoRow : OpenClaim := { program := "ytlifcingifodfaagreat", sum := "80c67f37324cf2533d9c77eba9ffa5043b3eb8785175d0c23c2208dfb44127e2", func := "seisin/seisintop.TopBudget", spec := "topBudget", inPlace := ["slices.overlaps[seisin/api.Object]"], unfollowed := true, recurses := true, plainKeys := false, apart := false, narrowed := true }
def TopBudgetUptoSaid : Prop := topBudgetUptoRow.holds Tryz.pinned (OpenSpec.upto topBudgetSpec)

/-- 'seisintop.TopPager', WHERE WHAT IT READS IS OF BULK AT MOST 1048576: true; the input reads as it did. -/
def topPagerUptoRow : OpenClaim := { program := "ytlifcingifodfaagreat", sum := "80c67f37324cf2533d9c77eba9ffa5043b3eb8785175d0c23c2208dfb44127e2", func := "seisin/seisintop.TopPager", spec := "topPager", inPlace := ["slices.overlaps[seisin/api.Object]"], unfollowed := true, recurses := true, plainKeys := false, apart := false, narrowed := true }
def TopPagerUptoSaid : Prop := topPagerUptoRow.holds Tryz.pinned (OpenSpec.upto topPagerSpec)

/-- 'seisintop.TopBegins', WHERE WHAT IT READS IS OF BULK AT MOST 1048576: true; the input reads as it did. -/
def topBeginsUptoRow : OpenClaim := { program := "ytlifcingifodfaagreat", sum := "80c67f37324cf2533d9c77eba9ffa5043b3eb8785175d0c23c2208dfb44127e2", func := "seisin/seisintop.TopBegins", spec := "topBegins", inPlace := ["slices.overlaps[seisin/api.Object]"], unfollowed := true, recurses := true, plainKeys := false, apart := false, narrowed := true }
def TopBeginsUptoSaid : Prop := topBeginsUptoRow.holds Tryz.pinned (OpenSpec.upto topBeginsSpec)

/-- 'seisintop.TopAlone', WHERE WHAT IT READS IS OF BULK AT MOST 1048576: true; the input reads as it did. -/
def topAloneUptoRow : OpenClaim := { program := "ytlifcingifodfaagreat", sum := "80c67f37324cf2533d9c77eba9ffa5043b3eb8785175d0c23c2208dfb44127e2", func := "seisin/seisintop.TopAlone", spec := "topAlone", inPlace := ["slices.overlaps[seisin/api.Object]"], unfollowed := true, recurses := true, plainKeys := false, apart := false, narrowed := true }
def TopAloneUptoSaid : Prop := topAloneUptoRow.holds Tryz.pinned (OpenSpec.upto topAloneSpec)

/-- 'seisintop.TopRows', WHERE WHAT IT READS IS OF BULK AT MOST 1048576: true; the input reads as it did. -/
def topRowsUptoRow : OpenClaim := { program := "ytlifcingifodfaagreat", sum := "80c67f37324cf2533d9c77eba9ffa5043b3eb8785175d0c23c2208dfb44127e2", func := "seisin/seisintop.TopRows", spec := "topRows", inPlace := ["slices.overlaps[seisin/api.Object]"], unfollowed := true, recurses := true, plainKeys := false, apart := false, narrowed := true }
def TopRowsUptoSaid : Prop := topRowsUptoRow.holds Tryz.pinned (OpenSpec.upto topRowsSpec)

/-- 'seisintop.TopFresh', WHERE WHAT IT READS IS OF BULK AT MOST 1048576: true; the input reads as it did. -/
def topFreshUptoRow : OpenClaim := { program := "ytlifcingifodfaagreat", sum := "80c67f37324cf2533d9c77eba9ffa5043b3eb8785175d0c23c2208dfb44127e2", func := "seisin/seisintop.TopFresh", spec := "topFresh", inPlace := ["slices.overlaps[seisin/api.Object]"], unfollowed := true, recurses := true, plainKeys := false, apart := false, narrowed := true }
def TopFreshUptoSaid : Prop := topFreshUptoRow.holds Tryz.pinned (OpenSpec.upto topFreshSpec)

/-- 'seisintop.TopCopied', WHERE WHAT IT READS IS OF BULK AT MOST 1048576: true; the input reads as it did. -/
def topCopiedUptoRow : OpenClaim := { program := "ytlifcingifodfaagreat", sum := "80c67f37324cf2533d9c77eba9ffa5043b3eb8785175d0c23c2208dfb44127e2", func := "seisin/seisintop.TopCopied", spec := "topCopied", inPlace := ["slices.overlaps[seisin/api.Object]"], unfollowed := true, recurses := true, plainKeys := false, apart := false, narrowed := true }
def TopCopiedUptoSaid : Prop := topCopiedUptoRow.holds Tryz.pinned (OpenSpec.upto topCopiedSpec)

/-- 'seisintop.TopUndone', WHERE WHAT IT READS IS OF BULK AT MOST 1048576: true; the input reads as it did. -/
def topUndoneUptoRow : OpenClaim := { program := "ytlifcingifodfaagreat", sum := "80c67f37324cf2533d9c77eba9ffa5043b3eb8785175d0c23c2208dfb44127e2", func := "seisin/seisintop.TopUndone", spec := "topUndone", inPlace := ["slices.overlaps[seisin/api.Object]"], unfollowed := true, recurses := true, plainKeys := false, apart := false, narrowed := true }
def TopUndoneUptoSaid : Prop := topUndoneUptoRow.holds Tryz.pinned (OpenSpec.upto topUndoneSpec)

/-- 'seisintop.TopAsked', WHERE WHAT IT READS IS OF BULK AT MOST 1048576: true; the input reads as it did. -/
def topAskedUptoRow : OpenClaim := { program := "ytlifcingifodfaagreat", sum := "80c67f37324cf2533d9c77eba9ffa5043b3eb8785175d0c23c2208dfb44127e2", func := "seisin/seisintop.TopAsked", spec := "topAsked", inPlace := ["slices.overlaps[seisin/api.Object]"], unfollowed := true, recurses := true, plainKeys := false, apart := false, narrowed := true }
def TopAskedUptoSaid : Prop := topAskedUptoRow.holds Tryz.pinned (OpenSpec.upto topAskedSpec)

/-- 'seisintop.TopTurned', WHERE WHAT IT READS IS OF BULK AT MOST 1048576: true; the input reads as it did. -/
def topTurnedUptoRow : OpenClaim := { program := "ytlifcingifodfaagreat", sum := "80c67f37324cf2533d9c77eba9ffa5043b3eb8785175d0c23c2208dfb44127e2", func := "seisin/seisintop.TopTurned", spec := "topTurned", inPlace := ["slices.overlaps[seisin/api.Object]"], unfollowed := true, recurses := true, plainKeys := false, apart := false, narrowed := true }
def TopTurnedUptoSaid : Prop := topTurnedUptoRow.holds Tryz.pinned (OpenSpec.upto topTurnedSpec)

/-- 'seisintop.TopLeftOut', WHERE WHAT IT READS IS OF BULK AT MOST 1048576: true; the input reads as it did. -/
def topLeftOutUptoRow : OpenClaim := { program := "ytlifcingifodfaagreat", sum := "80c67f37324cf2533d9c77eba9ffa5043b3eb8785175d0c23c2208dfb44127e2", func := "seisin/seisintop.TopLeftOut", spec := "topLeftOut", inPlace := ["slices.overlaps[seisin/api.Object]"], unfollowed := true, recurses := true, plainKeys := false, apart := false, narrowed := true }
def TopLeftOutUptoSaid : Prop := topLeftOutUptoRow.holds Tryz.pinned (OpenSpec.upto topLeftOutSpec)

/-- 'seisintop.TopReads', WHERE WHAT IT READS IS OF BULK AT MOST 1048576: true; the input reads as it did. -/
def topReadsUptoRow : OpenClaim := { program := "ytlifcingifodfaagreat", sum := "80c67f37324cf2533d9c77eba9ffa5043b3eb8785175d0c23c2208dfb44127e2", func := "seisin/seisintop.TopReads", spec := "topReads", inPlace := ["slices.overlaps[seisin/api.Object]"], unfollowed := true, recurses := true, plainKeys := false, apart := false, narrowed := true }
def TopReadsUptoSaid : Prop := topReadsUptoRow.holds Tryz.pinned (OpenSpec.upto topReadsSpec)

end Rows
end Go.Proofs.YtlifcingifodfaaGreat
