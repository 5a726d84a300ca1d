/-
  DERIVED. GIVEN WITH THE SEED: THE CARDS: each row of YtmicghhmbojkfaaDoorRows.lean that lists a variable, with what it lists TIED to the program's text (the seventh form; the later family's looks); each row that meets fmt, with fmt's text TOLD by the authors' own Lean function (tested against real Go, not proved from fmt's source: count such statements apart). THE CARD IS WHAT COUNTS. Prove the row's statement (the work); the ties are given (YtmicghhmbojkfaaDoorTie.lean); close each card by the builder's one call (the guide's Derived/Test/ToyasCard.lean, 'card_holds'). Laid BY PROGRAM, IN A SANDBOX (cutbox-door.mjs). By AI agents, Wed Nov 11 2026. No macro, syntax, notation, axiom, sorry.
-/
import Derived.Test.YtmicghhmbojkfaaDoorRows
import GoSem.ClaimSeven
namespace Go.Proofs.YtmicghhmbojkfaaDoor
namespace Rows

/-- THE TIED CARD OF 'barrowlaw02.GoodsOrderTotal'. -/
def goodsOrderTotalCard : Claim7 := { stood := { row := goodsOrderTotalRow, standIns := [], harness := (true, "0820faa3838d3dfe020e25a26ee24a88c8bd03a86d86ea3b21f3c3d28ddce66c"), looks := true }, kinds := [], alts := [], laidByText := true, laidKinds := [.data, .pinned], laidTests := true, laidLooks := .later }
def GoodsOrderTotalCardSaid : Prop := Claim7.holds Tryd.pinned (.plain (OpenSpec.ofChange goodsOrderTotalSpec)) goodsOrderTotalCard

/-- THE TIED CARD OF 'barrowlaw02.GoodsByNumber'. -/
def goodsByNumberCard : Claim7 := { stood := { row := goodsByNumberRow, standIns := [], harness := (true, "0820faa3838d3dfe020e25a26ee24a88c8bd03a86d86ea3b21f3c3d28ddce66c"), looks := true }, kinds := [], alts := [], laidByText := true, laidKinds := [.data, .pinned], laidTests := true, laidLooks := .later }
def GoodsByNumberCardSaid : Prop := Claim7.holds Tryd.pinned (.plain (OpenSpec.ofChange goodsByNumberSpec)) goodsByNumberCard

/-- THE TIED CARD OF 'barrowlaw02.GoodsQtyBack'. -/
def goodsQtyBackCard : Claim7 := { stood := { row := goodsQtyBackRow, standIns := [], harness := (true, "0820faa3838d3dfe020e25a26ee24a88c8bd03a86d86ea3b21f3c3d28ddce66c"), looks := true }, kinds := [], alts := [], laidByText := true, laidKinds := [.data, .data, .data, .sentinel, .sentinel], laidTests := true, laidLooks := .later }
def GoodsQtyBackCardSaid : Prop := Claim7.holds Tryd.pinned (.plain (OpenSpec.ofChange goodsQtyBackSpec)) goodsQtyBackCard

/-- THE TIED CARD OF 'barrowlaw02.GoodsSorts'. -/
def goodsSortsCard : Claim7 := { stood := { row := goodsSortsRow, standIns := [], harness := (true, "0820faa3838d3dfe020e25a26ee24a88c8bd03a86d86ea3b21f3c3d28ddce66c"), looks := true }, kinds := [], alts := [], laidByText := true, laidKinds := [.data, .pinned], laidTests := true, laidLooks := .later }
def GoodsSortsCardSaid : Prop := Claim7.holds Tryd.pinned (.plain (OpenSpec.ofChange goodsSortsSpec)) goodsSortsCard

/-- THE TIED CARD OF 'barrowlaw02.GoodsSortHolds'. -/
def goodsSortHoldsCard : Claim7 := { stood := { row := goodsSortHoldsRow, standIns := [], harness := (true, "0820faa3838d3dfe020e25a26ee24a88c8bd03a86d86ea3b21f3c3d28ddce66c"), looks := true }, kinds := [], alts := [], laidByText := true, laidKinds := [.data, .pinned], laidTests := true, laidLooks := .later }
def GoodsSortHoldsCardSaid : Prop := Claim7.holds Tryd.pinned (.plain (OpenSpec.ofChange goodsSortHoldsSpec)) goodsSortHoldsCard

/-- THE SECOND FORM's CARD OF 'barrowlaw02.GoodsOrderTotal'. -/
def goodsOrderTotalUptoCard : Claim7 := { stood := { row := goodsOrderTotalUptoRow, standIns := [], harness := (true, "0820faa3838d3dfe020e25a26ee24a88c8bd03a86d86ea3b21f3c3d28ddce66c"), looks := true }, kinds := [], alts := [], laidByText := true, laidKinds := [.data, .pinned], laidTests := true, laidLooks := .later }
def GoodsOrderTotalUptoCardSaid : Prop := Claim7.holds Tryd.pinned (.plain (OpenSpec.upto goodsOrderTotalSpec)) goodsOrderTotalUptoCard

/-- THE SECOND FORM's CARD OF 'barrowlaw02.GoodsByNumber'. -/
def goodsByNumberUptoCard : Claim7 := { stood := { row := goodsByNumberUptoRow, standIns := [], harness := (true, "0820faa3838d3dfe020e25a26ee24a88c8bd03a86d86ea3b21f3c3d28ddce66c"), looks := true }, kinds := [], alts := [], laidByText := true, laidKinds := [.data, .pinned], laidTests := true, laidLooks := .later }
def GoodsByNumberUptoCardSaid : Prop := Claim7.holds Tryd.pinned (.plain (OpenSpec.upto goodsByNumberSpec)) goodsByNumberUptoCard

/-- THE SECOND FORM's CARD OF 'barrowlaw02.GoodsQtyBack'. -/
def goodsQtyBackUptoCard : Claim7 := { stood := { row := goodsQtyBackUptoRow, standIns := [], harness := (true, "0820faa3838d3dfe020e25a26ee24a88c8bd03a86d86ea3b21f3c3d28ddce66c"), looks := true }, kinds := [], alts := [], laidByText := true, laidKinds := [.data, .data, .data, .sentinel, .sentinel], laidTests := true, laidLooks := .later }
def GoodsQtyBackUptoCardSaid : Prop := Claim7.holds Tryd.pinned (.plain (OpenSpec.upto goodsQtyBackSpec)) goodsQtyBackUptoCard

/-- THE SECOND FORM's CARD OF 'barrowlaw02.GoodsSorts'. -/
def goodsSortsUptoCard : Claim7 := { stood := { row := goodsSortsUptoRow, standIns := [], harness := (true, "0820faa3838d3dfe020e25a26ee24a88c8bd03a86d86ea3b21f3c3d28ddce66c"), looks := true }, kinds := [], alts := [], laidByText := true, laidKinds := [.data, .pinned], laidTests := true, laidLooks := .later }
def GoodsSortsUptoCardSaid : Prop := Claim7.holds Tryd.pinned (.plain (OpenSpec.upto goodsSortsSpec)) goodsSortsUptoCard

/-- THE SECOND FORM's CARD OF 'barrowlaw02.GoodsSortHolds'. -/
def goodsSortHoldsUptoCard : Claim7 := { stood := { row := goodsSortHoldsUptoRow, standIns := [], harness := (true, "0820faa3838d3dfe020e25a26ee24a88c8bd03a86d86ea3b21f3c3d28ddce66c"), looks := true }, kinds := [], alts := [], laidByText := true, laidKinds := [.data, .pinned], laidTests := true, laidLooks := .later }
def GoodsSortHoldsUptoCardSaid : Prop := Claim7.holds Tryd.pinned (.plain (OpenSpec.upto goodsSortHoldsSpec)) goodsSortHoldsUptoCard
end Rows
end Go.Proofs.YtmicghhmbojkfaaDoor
