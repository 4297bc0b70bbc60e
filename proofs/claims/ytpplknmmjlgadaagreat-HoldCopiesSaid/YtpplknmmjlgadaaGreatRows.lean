/-
  No cell of these rows narrows 'for every input' (looked for: loops, veiled, ifaces, maps, wideKeys, modest, calm, conditions, laid).
  DERIVED. THE GIVEN ROWS OF THIS SEAT. 5 by the template 'for every input the law returns true; each argument reads behind the call as it read before'; 0 by the template 'total and deterministic' (their statements: YtpplknmmjlgadaaGreatTotals.lean).
  GIVEN WITH THE SEED: the statements are not yours to turn. If you find one false, say at which input.
  Laid BY PROGRAM, IN A SANDBOX (cutbox-rows.mjs): the forced cells as the released guide's own fill.sh prints them over the translation 4819ec6a7109ac9e… (all of the seat's roots in one cut). By AI agents, Wed Nov 11 2026. No macro, syntax, notation, axiom, sorry.
-/
import Derived.Test.YtpplknmmjlgadaaGreatChecked
import GoSem.Claim
import GoSem.ClaimJoined
import GoSem.ClaimMapViews
import Derived.JoinedTies
import Derived.KernelRfl
namespace Go.Proofs.YtpplknmmjlgadaaGreat
/- THE CELL 'sum', in the pinned program and in every row, IS THE sha256 OF THE DUMP (.gsa) THAT YtpplknmmjlgadaaGreatProg.lean LOADS. Nothing in Lean hashes anything: it is a label: what it is worth is what the hold of that sum in a sandbox is worth. -/
noncomputable def Tryz.pinned : Pinned := { name := "ytpplknmmjlgadaagreat", sum := "4819ec6a7109ac9e08dec403f2f1cfffa72879ff312fc22058257becfcd3d19b", checked := Tryz.checked }
namespace Rows
def none {H : Type} : Left H := { results := [], args := [] }

/-- 'seisinlaw18.HoldScript': WHATEVER THE INPUT: true; the input reads as it did. -/
def holdScriptSpec : ChangeSpec := { name := "holdScript", fn := fun _ => fun
  | [d] => { results := [.lit (.bool true)], args := [d] }
  | _ => none }
def holdScriptRow : OpenClaim := { program := "ytpplknmmjlgadaagreat", sum := "4819ec6a7109ac9e08dec403f2f1cfffa72879ff312fc22058257becfcd3d19b", func := "seisin/seisinlaw18.HoldScript", spec := "holdScript", unfollowed := true, recurses := true, plainKeys := false, apart := false }
def HoldScriptSaid : Prop := holdScriptRow.holds Tryz.pinned (OpenSpec.ofChange holdScriptSpec)

/-- ITS FALSE NEIGHBOUR: 'it returns false'. Refute it at one input. -/
def holdScriptWrong : ChangeSpec := { name := "holdScript", fn := fun _ => fun
  | [d] => { results := [.lit (.bool false)], args := [d] }
  | _ => none }
def HoldScriptWrongFalsely : Prop := holdScriptRow.holds Tryz.pinned (OpenSpec.ofChange holdScriptWrong)

/-- 'seisinlaw18.HoldTree': WHATEVER THE INPUT: true; the input reads as it did. -/
def holdTreeSpec : ChangeSpec := { name := "holdTree", fn := fun _ => fun
  | [d] => { results := [.lit (.bool true)], args := [d] }
  | _ => none }
def holdTreeRow : OpenClaim := { program := "ytpplknmmjlgadaagreat", sum := "4819ec6a7109ac9e08dec403f2f1cfffa72879ff312fc22058257becfcd3d19b", func := "seisin/seisinlaw18.HoldTree", spec := "holdTree", unfollowed := true, recurses := true, plainKeys := false, apart := false }
def HoldTreeSaid : Prop := holdTreeRow.holds Tryz.pinned (OpenSpec.ofChange holdTreeSpec)

/-- ITS FALSE NEIGHBOUR: 'it returns false'. Refute it at one input. -/
def holdTreeWrong : ChangeSpec := { name := "holdTree", fn := fun _ => fun
  | [d] => { results := [.lit (.bool false)], args := [d] }
  | _ => none }
def HoldTreeWrongFalsely : Prop := holdTreeRow.holds Tryz.pinned (OpenSpec.ofChange holdTreeWrong)

/-- 'seisinlaw18.HoldMoves': WHATEVER THE INPUT: true; the input reads as it did. -/
def holdMovesSpec : ChangeSpec := { name := "holdMoves", fn := fun _ => fun
  | [d1, d2, d3] => { results := [.lit (.bool true)], args := [d1, d2, d3] }
  | _ => none }
def holdMovesRow : OpenClaim := { program := "ytpplknmmjlgadaagreat", sum := "4819ec6a7109ac9e08dec403f2f1cfffa72879ff312fc22058257becfcd3d19b", func := "seisin/seisinlaw18.HoldMoves", spec := "holdMoves", unfollowed := true, recurses := true, plainKeys := false, apart := false }
def HoldMovesSaid : Prop := holdMovesRow.holds Tryz.pinned (OpenSpec.ofChange holdMovesSpec)

/-- ITS FALSE NEIGHBOUR: 'it returns false'. Refute it at one input. -/
def holdMovesWrong : ChangeSpec := { name := "holdMoves", fn := fun _ => fun
  | [d1, d2, d3] => { results := [.lit (.bool false)], args := [d1, d2, d3] }
  | _ => none }
def HoldMovesWrongFalsely : Prop := holdMovesRow.holds Tryz.pinned (OpenSpec.ofChange holdMovesWrong)

/-- 'seisinlaw18.HoldFinal': WHATEVER THE INPUT: true; the input reads as it did. -/
def holdFinalSpec : ChangeSpec := { name := "holdFinal", fn := fun _ => fun
  | [d] => { results := [.lit (.bool true)], args := [d] }
  | _ => none }
def holdFinalRow : OpenClaim := { program := "ytpplknmmjlgadaagreat", sum := "4819ec6a7109ac9e08dec403f2f1cfffa72879ff312fc22058257becfcd3d19b", func := "seisin/seisinlaw18.HoldFinal", spec := "holdFinal", unfollowed := true, recurses := true, plainKeys := false, apart := false }
def HoldFinalSaid : Prop := holdFinalRow.holds Tryz.pinned (OpenSpec.ofChange holdFinalSpec)

/-- ITS FALSE NEIGHBOUR: 'it returns false'. Refute it at one input. -/
def holdFinalWrong : ChangeSpec := { name := "holdFinal", fn := fun _ => fun
  | [d] => { results := [.lit (.bool false)], args := [d] }
  | _ => none }
def HoldFinalWrongFalsely : Prop := holdFinalRow.holds Tryz.pinned (OpenSpec.ofChange holdFinalWrong)

/-- 'seisinlaw18.HoldCopies': WHATEVER THE INPUT: true; the input reads as it did. -/
def holdCopiesSpec : ChangeSpec := { name := "holdCopies", fn := fun _ => fun
  | [d1, d2, d3, d4, d5, d6] => { results := [.lit (.bool true)], args := [d1, d2, d3, d4, d5, d6] }
  | _ => none }
def holdCopiesRow : OpenClaim := { program := "ytpplknmmjlgadaagreat", sum := "4819ec6a7109ac9e08dec403f2f1cfffa72879ff312fc22058257becfcd3d19b", func := "seisin/seisinlaw18.HoldCopies", spec := "holdCopies", unfollowed := true, recurses := true, plainKeys := false, apart := false }
def HoldCopiesSaid : Prop := holdCopiesRow.holds Tryz.pinned (OpenSpec.ofChange holdCopiesSpec)

/-- ITS FALSE NEIGHBOUR: 'it returns false'. Refute it at one input. -/
def holdCopiesWrong : ChangeSpec := { name := "holdCopies", fn := fun _ => fun
  | [d1, d2, d3, d4, d5, d6] => { results := [.lit (.bool false)], args := [d1, d2, d3, d4, d5, d6] }
  | _ => none }
def HoldCopiesWrongFalsely : Prop := holdCopiesRow.holds Tryz.pinned (OpenSpec.ofChange holdCopiesWrong)

/- THE SECOND FORM. 'bulk': how many values and letters a reading holds, each counted each time it is reached (what is shared counts as often as it is met; a slice's spare places count too). A statement '..UptoSaid' is the law's where the arguments, and the package variables that the reading takes, are together of bulk at most 1048576: NARROWER than '..Said'. Prove '..Said' where nothing that the law and all that it calls make is longer than what came in: it says more and counts as full. Else prove '..UptoSaid'. A law counts once. -/
mutual
def uptoBulk {H : Type} : DataW H → Nat
  | .lit (.string bytes) => bytes.length + 1
  | .lit _ => 1
  | .nil => 1
  | .ptr d => uptoBulk d + 1
  | .slice elems spare => uptoBulkAll elems + uptoBulkAll spare + 1
  | .agg parts => uptoBulkAll parts + 1
  | .iface _ d => uptoBulk d + 1
  | .map entries => uptoBulkEntries entries + 1
  | .held _ => 1
def uptoBulkAll {H : Type} : List (DataW H) → Nat
  | [] => 0
  | d :: r => uptoBulk d + uptoBulkAll r
def uptoBulkEntries {H : Type} : List (Lit × DataW H) → Nat
  | [] => 0
  | x :: r => uptoBulkEntry x + uptoBulkEntries r
def uptoBulkEntry {H : Type} : Lit × DataW H → Nat
  | (.string bytes, d) => bytes.length + uptoBulk d + 1
  | (_, d) => uptoBulk d + 1
 end
def uptoSmall : (H : Type) → List (DataW H) → Bool := fun _ ds => decide (uptoBulkAll ds ≤ 1048576)
def OpenSpec.upto (s : _root_.Go.ChangeSpec) : _root_.Go.OpenSpec := { _root_.Go.OpenSpec.ofChange s with cond := some uptoSmall }

/-- 'seisinlaw18.HoldScript', WHERE WHAT IT READS IS OF BULK AT MOST 1048576: true; the input reads as it did. -/
def holdScriptUptoRow : OpenClaim := { program := "ytpplknmmjlgadaagreat", sum := "4819ec6a7109ac9e08dec403f2f1cfffa72879ff312fc22058257becfcd3d19b", func := "seisin/seisinlaw18.HoldScript", spec := "holdScript", unfollowed := true, recurses := true, plainKeys := false, apart := false, narrowed := true }
def HoldScriptUptoSaid : Prop := holdScriptUptoRow.holds Tryz.pinned (OpenSpec.upto holdScriptSpec)

/-- 'seisinlaw18.HoldTree', WHERE WHAT IT READS IS OF BULK AT MOST 1048576: true; the input reads as it did. -/
def holdTreeUptoRow : OpenClaim := { program := "ytpplknmmjlgadaagreat", sum := "4819ec6a7109ac9e08dec403f2f1cfffa72879ff312fc22058257becfcd3d19b", func := "seisin/seisinlaw18.HoldTree", spec := "holdTree", unfollowed := true, recurses := true, plainKeys := false, apart := false, narrowed := true }
def HoldTreeUptoSaid : Prop := holdTreeUptoRow.holds Tryz.pinned (OpenSpec.upto holdTreeSpec)

/-- 'seisinlaw18.HoldMoves', WHERE WHAT IT READS IS OF BULK AT MOST 1048576: true; the input reads as it did. -/
def holdMovesUptoRow : OpenClaim := { program := "ytpplknmmjlgadaagreat", sum := "4819ec6a7109ac9e08dec403f2f1cfffa72879ff312fc22058257becfcd3d19b", func := "seisin/seisinlaw18.HoldMoves", spec := "holdMoves", unfollowed := true, recurses := true, plainKeys := false, apart := false, narrowed := true }
def HoldMovesUptoSaid : Prop := holdMovesUptoRow.holds Tryz.pinned (OpenSpec.upto holdMovesSpec)

/-- 'seisinlaw18.HoldFinal', WHERE WHAT IT READS IS OF BULK AT MOST 1048576: true; the input reads as it did. -/
def holdFinalUptoRow : OpenClaim := { program := "ytpplknmmjlgadaagreat", sum := "4819ec6a7109ac9e08dec403f2f1cfffa72879ff312fc22058257becfcd3d19b", func := "seisin/seisinlaw18.HoldFinal", spec := "holdFinal", unfollowed := true, recurses := true, plainKeys := false, apart := false, narrowed := true }
def HoldFinalUptoSaid : Prop := holdFinalUptoRow.holds Tryz.pinned (OpenSpec.upto holdFinalSpec)

/-- 'seisinlaw18.HoldCopies', WHERE WHAT IT READS IS OF BULK AT MOST 1048576: true; the input reads as it did. -/
def holdCopiesUptoRow : OpenClaim := { program := "ytpplknmmjlgadaagreat", sum := "4819ec6a7109ac9e08dec403f2f1cfffa72879ff312fc22058257becfcd3d19b", func := "seisin/seisinlaw18.HoldCopies", spec := "holdCopies", unfollowed := true, recurses := true, plainKeys := false, apart := false, narrowed := true }
def HoldCopiesUptoSaid : Prop := holdCopiesUptoRow.holds Tryz.pinned (OpenSpec.upto holdCopiesSpec)

end Rows
end Go.Proofs.YtpplknmmjlgadaaGreat
