/-
  DERIVED. GIVEN WITH THE SEED: THE CARDS: each row of YtlmdhpfggobogaaDoorRows.lean that lists a variable, with what it lists TIED to the program's text (the seventh form; the later family's looks); each row that meets fmt, with fmt's text TOLD by the authors' own Lean function (tested against real Go, not proved from fmt's source: count such statements apart). THE CARD IS WHAT COUNTS. Prove the row's statement (the work); the ties are given (YtlmdhpfggobogaaDoorTie.lean); close each card by the builder's one call (the guide's Derived/Test/ToyasCard.lean, 'card_holds'). Laid BY PROGRAM, IN A SANDBOX (cutbox-door.mjs). By AI agents, Wed Nov 11 2026. No macro, syntax, notation, axiom, sorry.
-/
import Derived.Test.YtlmdhpfggobogaaDoorRows
import GoSem.ClaimSeven
namespace Go.Proofs.YtlmdhpfggobogaaDoor
namespace Rows

/-- THE TIED CARD OF 'barrowlaw24.ScriptPrints'. -/
def scriptPrintsCard : Claim7 := { stood := { row := scriptPrintsRow, standIns := [], harness := (true, "f6049bdb8c50963caa8c4d24b97c39c7d5282bf24ac7192de8688c00d05008ca"), looks := true }, kinds := [], alts := [], laidByText := true, laidKinds := [.data, .data, .data], laidTests := true, laidLooks := .later }
def ScriptPrintsCardSaid : Prop := Claim7.holds Tryd.pinned (.plain (OpenSpec.ofChange scriptPrintsSpec)) scriptPrintsCard

/-- THE TIED CARD OF 'barrowlaw24.ScriptOps'. -/
def scriptOpsCard : Claim7 := { stood := { row := scriptOpsRow, standIns := [], harness := (true, "f6049bdb8c50963caa8c4d24b97c39c7d5282bf24ac7192de8688c00d05008ca"), looks := true }, kinds := [], alts := [], laidByText := true, laidKinds := [.data, .data, .data, .sentinel, .sentinel], laidTests := true, laidLooks := .later }
def ScriptOpsCardSaid : Prop := Claim7.holds Tryd.pinned (.plain (OpenSpec.ofChange scriptOpsSpec)) scriptOpsCard

/-- THE TIED CARD OF 'barrowlaw24.ScriptPlains'. -/
def scriptPlainsCard : Claim7 := { stood := { row := scriptPlainsRow, standIns := [], harness := (true, "f6049bdb8c50963caa8c4d24b97c39c7d5282bf24ac7192de8688c00d05008ca"), looks := true }, kinds := [], alts := [], laidByText := true, laidKinds := [.data, .data, .data, .sentinel, .sentinel], laidTests := true, laidLooks := .later }
def ScriptPlainsCardSaid : Prop := Claim7.holds Tryd.pinned (.plain (OpenSpec.ofChange scriptPlainsSpec)) scriptPlainsCard

/-- THE TIED CARD OF 'barrowlaw24.ScriptOpThere'. -/
def scriptOpThereCard : Claim7 := { stood := { row := scriptOpThereRow, standIns := [], harness := (true, "f6049bdb8c50963caa8c4d24b97c39c7d5282bf24ac7192de8688c00d05008ca"), looks := true }, kinds := [], alts := [], laidByText := true, laidKinds := [.data, .data, .data, .sentinel, .sentinel], laidTests := true, laidLooks := .later }
def ScriptOpThereCardSaid : Prop := Claim7.holds Tryd.pinned (.plain (OpenSpec.ofChange scriptOpThereSpec)) scriptOpThereCard

/-- THE TIED CARD OF 'barrowlaw24.ScriptOne'. -/
def scriptOneCard : Claim7 := { stood := { row := scriptOneRow, standIns := [], harness := (true, "f6049bdb8c50963caa8c4d24b97c39c7d5282bf24ac7192de8688c00d05008ca"), looks := true }, kinds := [], alts := [], laidByText := true, laidKinds := [.data, .data, .data, .sentinel, .sentinel], laidTests := true, laidLooks := .later }
def ScriptOneCardSaid : Prop := Claim7.holds Tryd.pinned (.plain (OpenSpec.ofChange scriptOneSpec)) scriptOneCard

/-- THE TIED CARD OF 'barrowlaw24.ScriptParses'. -/
def scriptParsesCard : Claim7 := { stood := { row := scriptParsesRow, standIns := [], harness := (true, "f6049bdb8c50963caa8c4d24b97c39c7d5282bf24ac7192de8688c00d05008ca"), looks := true }, kinds := [], alts := [], laidByText := true, laidKinds := [.data, .data, .data, .data, .sentinel, .sentinel, .pinned], laidTests := true, laidLooks := .later }
def ScriptParsesCardSaid : Prop := Claim7.holds Tryd.pinned (.plain (OpenSpec.ofChange scriptParsesSpec)) scriptParsesCard

/-- THE TIED CARD OF 'barrowlaw24.ScriptFirst'. -/
def scriptFirstCard : Claim7 := { stood := { row := scriptFirstRow, standIns := [], harness := (true, "f6049bdb8c50963caa8c4d24b97c39c7d5282bf24ac7192de8688c00d05008ca"), looks := true }, kinds := [], alts := [], laidByText := true, laidKinds := [.data, .data, .data, .data, .sentinel, .sentinel, .pinned], laidTests := true, laidLooks := .later }
def ScriptFirstCardSaid : Prop := Claim7.holds Tryd.pinned (.plain (OpenSpec.ofChange scriptFirstSpec)) scriptFirstCard

/-- THE TIED CARD OF 'barrowlaw24.ScriptMore'. -/
def scriptMoreCard : Claim7 := { stood := { row := scriptMoreRow, standIns := [], harness := (true, "f6049bdb8c50963caa8c4d24b97c39c7d5282bf24ac7192de8688c00d05008ca"), looks := true }, kinds := [], alts := [], laidByText := true, laidKinds := [.data, .data, .data, .data, .sentinel, .sentinel, .pinned], laidTests := true, laidLooks := .later }
def ScriptMoreCardSaid : Prop := Claim7.holds Tryd.pinned (.plain (OpenSpec.ofChange scriptMoreSpec)) scriptMoreCard

/-- THE TIED CARD OF 'barrowlaw24.ScriptThere'. -/
def scriptThereCard : Claim7 := { stood := { row := scriptThereRow, standIns := [], harness := (true, "f6049bdb8c50963caa8c4d24b97c39c7d5282bf24ac7192de8688c00d05008ca"), looks := true }, kinds := [], alts := [], laidByText := true, laidKinds := [.data, .data, .data, .data, .sentinel, .sentinel, .pinned], laidTests := true, laidLooks := .later }
def ScriptThereCardSaid : Prop := Claim7.holds Tryd.pinned (.plain (OpenSpec.ofChange scriptThereSpec)) scriptThereCard

/-- THE TIED CARD OF 'barrowlaw24.ScriptSpread'. -/
def scriptSpreadCard : Claim7 := { stood := { row := scriptSpreadRow, standIns := [], harness := (true, "f6049bdb8c50963caa8c4d24b97c39c7d5282bf24ac7192de8688c00d05008ca"), looks := true }, kinds := [], alts := [], laidByText := true, laidKinds := [.data, .data, .data, .data, .sentinel, .sentinel, .pinned], laidTests := true, laidLooks := .later }
def ScriptSpreadCardSaid : Prop := Claim7.holds Tryd.pinned (.plain (OpenSpec.ofChange scriptSpreadSpec)) scriptSpreadCard

/-- THE TIED CARD OF 'barrowlaw24.ScriptKeeps'. -/
def scriptKeepsCard : Claim7 := { stood := { row := scriptKeepsRow, standIns := [], harness := (true, "f6049bdb8c50963caa8c4d24b97c39c7d5282bf24ac7192de8688c00d05008ca"), looks := true }, kinds := [], alts := [], laidByText := true, laidKinds := [.data, .data, .data, .data, .sentinel, .sentinel, .pinned], laidTests := true, laidLooks := .later }
def ScriptKeepsCardSaid : Prop := Claim7.holds Tryd.pinned (.plain (OpenSpec.ofChange scriptKeepsSpec)) scriptKeepsCard

/-- THE SECOND FORM's CARD OF 'barrowlaw24.ScriptPrints'. -/
def scriptPrintsUptoCard : Claim7 := { stood := { row := scriptPrintsUptoRow, standIns := [], harness := (true, "f6049bdb8c50963caa8c4d24b97c39c7d5282bf24ac7192de8688c00d05008ca"), looks := true }, kinds := [], alts := [], laidByText := true, laidKinds := [.data, .data, .data], laidTests := true, laidLooks := .later }
def ScriptPrintsUptoCardSaid : Prop := Claim7.holds Tryd.pinned (.plain (OpenSpec.upto scriptPrintsSpec)) scriptPrintsUptoCard

/-- THE SECOND FORM's CARD OF 'barrowlaw24.ScriptOps'. -/
def scriptOpsUptoCard : Claim7 := { stood := { row := scriptOpsUptoRow, standIns := [], harness := (true, "f6049bdb8c50963caa8c4d24b97c39c7d5282bf24ac7192de8688c00d05008ca"), looks := true }, kinds := [], alts := [], laidByText := true, laidKinds := [.data, .data, .data, .sentinel, .sentinel], laidTests := true, laidLooks := .later }
def ScriptOpsUptoCardSaid : Prop := Claim7.holds Tryd.pinned (.plain (OpenSpec.upto scriptOpsSpec)) scriptOpsUptoCard

/-- THE SECOND FORM's CARD OF 'barrowlaw24.ScriptPlains'. -/
def scriptPlainsUptoCard : Claim7 := { stood := { row := scriptPlainsUptoRow, standIns := [], harness := (true, "f6049bdb8c50963caa8c4d24b97c39c7d5282bf24ac7192de8688c00d05008ca"), looks := true }, kinds := [], alts := [], laidByText := true, laidKinds := [.data, .data, .data, .sentinel, .sentinel], laidTests := true, laidLooks := .later }
def ScriptPlainsUptoCardSaid : Prop := Claim7.holds Tryd.pinned (.plain (OpenSpec.upto scriptPlainsSpec)) scriptPlainsUptoCard

/-- THE SECOND FORM's CARD OF 'barrowlaw24.ScriptOpThere'. -/
def scriptOpThereUptoCard : Claim7 := { stood := { row := scriptOpThereUptoRow, standIns := [], harness := (true, "f6049bdb8c50963caa8c4d24b97c39c7d5282bf24ac7192de8688c00d05008ca"), looks := true }, kinds := [], alts := [], laidByText := true, laidKinds := [.data, .data, .data, .sentinel, .sentinel], laidTests := true, laidLooks := .later }
def ScriptOpThereUptoCardSaid : Prop := Claim7.holds Tryd.pinned (.plain (OpenSpec.upto scriptOpThereSpec)) scriptOpThereUptoCard

/-- THE SECOND FORM's CARD OF 'barrowlaw24.ScriptOne'. -/
def scriptOneUptoCard : Claim7 := { stood := { row := scriptOneUptoRow, standIns := [], harness := (true, "f6049bdb8c50963caa8c4d24b97c39c7d5282bf24ac7192de8688c00d05008ca"), looks := true }, kinds := [], alts := [], laidByText := true, laidKinds := [.data, .data, .data, .sentinel, .sentinel], laidTests := true, laidLooks := .later }
def ScriptOneUptoCardSaid : Prop := Claim7.holds Tryd.pinned (.plain (OpenSpec.upto scriptOneSpec)) scriptOneUptoCard

/-- THE SECOND FORM's CARD OF 'barrowlaw24.ScriptParses'. -/
def scriptParsesUptoCard : Claim7 := { stood := { row := scriptParsesUptoRow, standIns := [], harness := (true, "f6049bdb8c50963caa8c4d24b97c39c7d5282bf24ac7192de8688c00d05008ca"), looks := true }, kinds := [], alts := [], laidByText := true, laidKinds := [.data, .data, .data, .data, .sentinel, .sentinel, .pinned], laidTests := true, laidLooks := .later }
def ScriptParsesUptoCardSaid : Prop := Claim7.holds Tryd.pinned (.plain (OpenSpec.upto scriptParsesSpec)) scriptParsesUptoCard

/-- THE SECOND FORM's CARD OF 'barrowlaw24.ScriptFirst'. -/
def scriptFirstUptoCard : Claim7 := { stood := { row := scriptFirstUptoRow, standIns := [], harness := (true, "f6049bdb8c50963caa8c4d24b97c39c7d5282bf24ac7192de8688c00d05008ca"), looks := true }, kinds := [], alts := [], laidByText := true, laidKinds := [.data, .data, .data, .data, .sentinel, .sentinel, .pinned], laidTests := true, laidLooks := .later }
def ScriptFirstUptoCardSaid : Prop := Claim7.holds Tryd.pinned (.plain (OpenSpec.upto scriptFirstSpec)) scriptFirstUptoCard

/-- THE SECOND FORM's CARD OF 'barrowlaw24.ScriptMore'. -/
def scriptMoreUptoCard : Claim7 := { stood := { row := scriptMoreUptoRow, standIns := [], harness := (true, "f6049bdb8c50963caa8c4d24b97c39c7d5282bf24ac7192de8688c00d05008ca"), looks := true }, kinds := [], alts := [], laidByText := true, laidKinds := [.data, .data, .data, .data, .sentinel, .sentinel, .pinned], laidTests := true, laidLooks := .later }
def ScriptMoreUptoCardSaid : Prop := Claim7.holds Tryd.pinned (.plain (OpenSpec.upto scriptMoreSpec)) scriptMoreUptoCard

/-- THE SECOND FORM's CARD OF 'barrowlaw24.ScriptThere'. -/
def scriptThereUptoCard : Claim7 := { stood := { row := scriptThereUptoRow, standIns := [], harness := (true, "f6049bdb8c50963caa8c4d24b97c39c7d5282bf24ac7192de8688c00d05008ca"), looks := true }, kinds := [], alts := [], laidByText := true, laidKinds := [.data, .data, .data, .data, .sentinel, .sentinel, .pinned], laidTests := true, laidLooks := .later }
def ScriptThereUptoCardSaid : Prop := Claim7.holds Tryd.pinned (.plain (OpenSpec.upto scriptThereSpec)) scriptThereUptoCard

/-- THE SECOND FORM's CARD OF 'barrowlaw24.ScriptSpread'. -/
def scriptSpreadUptoCard : Claim7 := { stood := { row := scriptSpreadUptoRow, standIns := [], harness := (true, "f6049bdb8c50963caa8c4d24b97c39c7d5282bf24ac7192de8688c00d05008ca"), looks := true }, kinds := [], alts := [], laidByText := true, laidKinds := [.data, .data, .data, .data, .sentinel, .sentinel, .pinned], laidTests := true, laidLooks := .later }
def ScriptSpreadUptoCardSaid : Prop := Claim7.holds Tryd.pinned (.plain (OpenSpec.upto scriptSpreadSpec)) scriptSpreadUptoCard

/-- THE SECOND FORM's CARD OF 'barrowlaw24.ScriptKeeps'. -/
def scriptKeepsUptoCard : Claim7 := { stood := { row := scriptKeepsUptoRow, standIns := [], harness := (true, "f6049bdb8c50963caa8c4d24b97c39c7d5282bf24ac7192de8688c00d05008ca"), looks := true }, kinds := [], alts := [], laidByText := true, laidKinds := [.data, .data, .data, .data, .sentinel, .sentinel, .pinned], laidTests := true, laidLooks := .later }
def ScriptKeepsUptoCardSaid : Prop := Claim7.holds Tryd.pinned (.plain (OpenSpec.upto scriptKeepsSpec)) scriptKeepsUptoCard
end Rows
end Go.Proofs.YtlmdhpfggobogaaDoor
