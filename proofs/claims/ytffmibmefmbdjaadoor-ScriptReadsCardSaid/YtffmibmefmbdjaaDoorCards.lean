/-
  DERIVED. GIVEN WITH THE SEED: THE CARDS: each row of YtffmibmefmbdjaaDoorRows.lean that lists a variable, with what it lists TIED to the program's text (the seventh form; the later family's looks); each row that meets fmt, with fmt's text TOLD by the authors' own Lean function (tested against real Go, not proved from fmt's source: count such statements apart). THE CARD IS WHAT COUNTS. Prove the row's statement (the work); the ties are given (YtffmibmefmbdjaaDoorTie.lean); close each card by the builder's one call (the guide's Derived/Test/ToyasCard.lean, 'card_holds'). Laid BY PROGRAM, IN A SANDBOX (cutbox-door.mjs). By AI agents, Wed Nov 11 2026. No macro, syntax, notation, axiom, sorry.
-/
import Derived.Test.YtffmibmefmbdjaaDoorRows
import GoSem.ClaimSeven
namespace Go.Proofs.YtffmibmefmbdjaaDoor
namespace Rows

/-- THE TIED CARD OF 'seisinlaw35.ScriptReads'. -/
def scriptReadsCard : Claim7 := { stood := { row := scriptReadsRow, standIns := [], harness := (true, "b7fea7b07ec1bb0669e546aafa9b45ac4884ce83862fe53dc5fd78588dd9ae1e"), looks := true }, kinds := [], alts := [], laidByText := true, laidKinds := [.data, .data, .data, .sentinel, .sentinel], laidTests := true, laidLooks := .later }
def ScriptReadsCardSaid : Prop := Claim7.holds Tryd.pinned (.plain (OpenSpec.ofChange scriptReadsSpec)) scriptReadsCard

/-- THE TIED CARD OF 'seisinlaw35.ScriptPrints'. -/
def scriptPrintsCard : Claim7 := { stood := { row := scriptPrintsRow, standIns := [], harness := (true, "b7fea7b07ec1bb0669e546aafa9b45ac4884ce83862fe53dc5fd78588dd9ae1e"), looks := true }, kinds := [], alts := [], laidByText := true, laidKinds := [.data, .data, .data, .sentinel, .sentinel], laidTests := true, laidLooks := .later }
def ScriptPrintsCardSaid : Prop := Claim7.holds Tryd.pinned (.plain (OpenSpec.ofChange scriptPrintsSpec)) scriptPrintsCard

/-- THE TIED CARD OF 'seisinlaw35.ScriptBack'. -/
def scriptBackCard : Claim7 := { stood := { row := scriptBackRow, standIns := [], harness := (true, "b7fea7b07ec1bb0669e546aafa9b45ac4884ce83862fe53dc5fd78588dd9ae1e"), looks := true }, kinds := [], alts := [], laidByText := true, laidKinds := [.data, .data, .data, .sentinel, .sentinel], laidTests := true, laidLooks := .later }
def ScriptBackCardSaid : Prop := Claim7.holds Tryd.pinned (.plain (OpenSpec.ofChange scriptBackSpec)) scriptBackCard

/-- THE TIED CARD OF 'seisinlaw35.ScriptStrict'. -/
def scriptStrictCard : Claim7 := { stood := { row := scriptStrictRow, standIns := [], harness := (true, "b7fea7b07ec1bb0669e546aafa9b45ac4884ce83862fe53dc5fd78588dd9ae1e"), looks := true }, kinds := [], alts := [], laidByText := true, laidKinds := [.data, .data, .data, .sentinel, .sentinel], laidTests := true, laidLooks := .later }
def ScriptStrictCardSaid : Prop := Claim7.holds Tryd.pinned (.plain (OpenSpec.ofChange scriptStrictSpec)) scriptStrictCard

/-- THE TIED CARD OF 'seisinlaw35.ScriptParts'. -/
def scriptPartsCard : Claim7 := { stood := { row := scriptPartsRow, standIns := [], harness := (true, "b7fea7b07ec1bb0669e546aafa9b45ac4884ce83862fe53dc5fd78588dd9ae1e"), looks := true }, kinds := [], alts := [], laidByText := true, laidKinds := [.data, .data, .data, .sentinel, .sentinel], laidTests := true, laidLooks := .later }
def ScriptPartsCardSaid : Prop := Claim7.holds Tryd.pinned (.plain (OpenSpec.ofChange scriptPartsSpec)) scriptPartsCard

/-- THE SECOND FORM's CARD OF 'seisinlaw35.ScriptReads'. -/
def scriptReadsUptoCard : Claim7 := { stood := { row := scriptReadsUptoRow, standIns := [], harness := (true, "b7fea7b07ec1bb0669e546aafa9b45ac4884ce83862fe53dc5fd78588dd9ae1e"), looks := true }, kinds := [], alts := [], laidByText := true, laidKinds := [.data, .data, .data, .sentinel, .sentinel], laidTests := true, laidLooks := .later }
def ScriptReadsUptoCardSaid : Prop := Claim7.holds Tryd.pinned (.plain (OpenSpec.upto scriptReadsSpec)) scriptReadsUptoCard

/-- THE SECOND FORM's CARD OF 'seisinlaw35.ScriptPrints'. -/
def scriptPrintsUptoCard : Claim7 := { stood := { row := scriptPrintsUptoRow, standIns := [], harness := (true, "b7fea7b07ec1bb0669e546aafa9b45ac4884ce83862fe53dc5fd78588dd9ae1e"), looks := true }, kinds := [], alts := [], laidByText := true, laidKinds := [.data, .data, .data, .sentinel, .sentinel], laidTests := true, laidLooks := .later }
def ScriptPrintsUptoCardSaid : Prop := Claim7.holds Tryd.pinned (.plain (OpenSpec.upto scriptPrintsSpec)) scriptPrintsUptoCard

/-- THE SECOND FORM's CARD OF 'seisinlaw35.ScriptBack'. -/
def scriptBackUptoCard : Claim7 := { stood := { row := scriptBackUptoRow, standIns := [], harness := (true, "b7fea7b07ec1bb0669e546aafa9b45ac4884ce83862fe53dc5fd78588dd9ae1e"), looks := true }, kinds := [], alts := [], laidByText := true, laidKinds := [.data, .data, .data, .sentinel, .sentinel], laidTests := true, laidLooks := .later }
def ScriptBackUptoCardSaid : Prop := Claim7.holds Tryd.pinned (.plain (OpenSpec.upto scriptBackSpec)) scriptBackUptoCard

/-- THE SECOND FORM's CARD OF 'seisinlaw35.ScriptStrict'. -/
def scriptStrictUptoCard : Claim7 := { stood := { row := scriptStrictUptoRow, standIns := [], harness := (true, "b7fea7b07ec1bb0669e546aafa9b45ac4884ce83862fe53dc5fd78588dd9ae1e"), looks := true }, kinds := [], alts := [], laidByText := true, laidKinds := [.data, .data, .data, .sentinel, .sentinel], laidTests := true, laidLooks := .later }
def ScriptStrictUptoCardSaid : Prop := Claim7.holds Tryd.pinned (.plain (OpenSpec.upto scriptStrictSpec)) scriptStrictUptoCard

/-- THE SECOND FORM's CARD OF 'seisinlaw35.ScriptParts'. -/
def scriptPartsUptoCard : Claim7 := { stood := { row := scriptPartsUptoRow, standIns := [], harness := (true, "b7fea7b07ec1bb0669e546aafa9b45ac4884ce83862fe53dc5fd78588dd9ae1e"), looks := true }, kinds := [], alts := [], laidByText := true, laidKinds := [.data, .data, .data, .sentinel, .sentinel], laidTests := true, laidLooks := .later }
def ScriptPartsUptoCardSaid : Prop := Claim7.holds Tryd.pinned (.plain (OpenSpec.upto scriptPartsSpec)) scriptPartsUptoCard
end Rows
end Go.Proofs.YtffmibmefmbdjaaDoor
