/-
  DERIVED. GIVEN WITH THE SEED: THE CARDS: each row of YtmicghhmbojkfaaGreatDoorRows.lean that lists a variable, with what it lists TIED to the program's text (the seventh form; the later family's looks); each row that meets fmt, with fmt's text TOLD by the authors' own Lean function (tested against real Go, not proved from fmt's source: count such statements apart). THE CARD IS WHAT COUNTS. Prove the row's statement (the work); the ties are given (YtmicghhmbojkfaaGreatDoorTie.lean); close each card by the builder's one call (the guide's Derived/Test/ToyasCard.lean, 'card_holds'). Laid BY PROGRAM, IN A SANDBOX (cutbox-door.mjs). By AI agents, Wed Nov 11 2026. No macro, syntax, notation, axiom, sorry.
-/
import Derived.Test.YtmicghhmbojkfaaGreatDoorRows
import GoSem.ClaimSeven
namespace Go.Proofs.YtmicghhmbojkfaaGreatDoor
namespace Rows

/-- THE TIED CARD OF 'barrowlaw02.GoodsChecks'. -/
def goodsChecksCard : Claim7 := { stood := { row := goodsChecksRow, standIns := [], harness := (true, "70a21523e70b32e21d1561ca6b60239aa887f93bdaf714042d1307a24448ec4f"), looks := true }, kinds := [], alts := [], laidByText := true, laidKinds := [.data, .data, .data, .data, .sentinel, .sentinel, .pinned], laidTests := true, laidLooks := .later }
def GoodsChecksCardSaid : Prop := Claim7.holds Tryz.pinned (.plain (OpenSpec.ofChange goodsChecksSpec)) goodsChecksCard

/-- THE TIED CARD OF 'barrowlaw02.GoodsArticles'. -/
def goodsArticlesCard : Claim7 := { stood := { row := goodsArticlesRow, standIns := [], harness := (true, "70a21523e70b32e21d1561ca6b60239aa887f93bdaf714042d1307a24448ec4f"), looks := true }, kinds := [], alts := [], laidByText := true, laidKinds := [.data, .data, .data, .data, .sentinel, .sentinel, .pinned], laidTests := true, laidLooks := .later }
def GoodsArticlesCardSaid : Prop := Claim7.holds Tryz.pinned (.plain (OpenSpec.ofChange goodsArticlesSpec)) goodsArticlesCard

/-- THE TIED CARD OF 'barrowlaw02.GoodsMatches'. -/
def goodsMatchesCard : Claim7 := { stood := { row := goodsMatchesRow, standIns := [], harness := (true, "70a21523e70b32e21d1561ca6b60239aa887f93bdaf714042d1307a24448ec4f"), looks := true }, kinds := [], alts := [], laidByText := true, laidKinds := [.data, .data, .data, .data, .sentinel, .sentinel, .pinned], laidTests := true, laidLooks := .later }
def GoodsMatchesCardSaid : Prop := Claim7.holds Tryz.pinned (.plain (OpenSpec.ofChange goodsMatchesSpec)) goodsMatchesCard

/-- THE TIED CARD OF 'barrowlaw02.GoodsOrders'. -/
def goodsOrdersCard : Claim7 := { stood := { row := goodsOrdersRow, standIns := [], harness := (true, "70a21523e70b32e21d1561ca6b60239aa887f93bdaf714042d1307a24448ec4f"), looks := true }, kinds := [], alts := [], laidByText := true, laidKinds := [.data, .data, .data, .data, .sentinel, .sentinel, .pinned], laidTests := true, laidLooks := .later }
def GoodsOrdersCardSaid : Prop := Claim7.holds Tryz.pinned (.plain (OpenSpec.ofChange goodsOrdersSpec)) goodsOrdersCard

/-- THE TIED CARD OF 'barrowlaw02.GoodsQuantities'. -/
def goodsQuantitiesCard : Claim7 := { stood := { row := goodsQuantitiesRow, standIns := [], harness := (true, "70a21523e70b32e21d1561ca6b60239aa887f93bdaf714042d1307a24448ec4f"), looks := true }, kinds := [], alts := [], laidByText := true, laidKinds := [.data, .data, .data, .data, .sentinel, .sentinel, .pinned], laidTests := true, laidLooks := .later }
def GoodsQuantitiesCardSaid : Prop := Claim7.holds Tryz.pinned (.plain (OpenSpec.ofChange goodsQuantitiesSpec)) goodsQuantitiesCard

/-- THE TIED CARD OF 'barrowlaw02.GoodsAll'. -/
def goodsAllCard : Claim7 := { stood := { row := goodsAllRow, standIns := [], harness := (true, "70a21523e70b32e21d1561ca6b60239aa887f93bdaf714042d1307a24448ec4f"), looks := true }, kinds := [], alts := [], laidByText := true, laidKinds := [.data, .data, .data, .data, .sentinel, .sentinel, .pinned], laidTests := true, laidLooks := .later }
def GoodsAllCardSaid : Prop := Claim7.holds Tryz.pinned (.plain (OpenSpec.ofChange goodsAllSpec)) goodsAllCard

/-- THE SECOND FORM's CARD OF 'barrowlaw02.GoodsChecks'. -/
def goodsChecksUptoCard : Claim7 := { stood := { row := goodsChecksUptoRow, standIns := [], harness := (true, "70a21523e70b32e21d1561ca6b60239aa887f93bdaf714042d1307a24448ec4f"), looks := true }, kinds := [], alts := [], laidByText := true, laidKinds := [.data, .data, .data, .data, .sentinel, .sentinel, .pinned], laidTests := true, laidLooks := .later }
def GoodsChecksUptoCardSaid : Prop := Claim7.holds Tryz.pinned (.plain (OpenSpec.upto goodsChecksSpec)) goodsChecksUptoCard

/-- THE SECOND FORM's CARD OF 'barrowlaw02.GoodsArticles'. -/
def goodsArticlesUptoCard : Claim7 := { stood := { row := goodsArticlesUptoRow, standIns := [], harness := (true, "70a21523e70b32e21d1561ca6b60239aa887f93bdaf714042d1307a24448ec4f"), looks := true }, kinds := [], alts := [], laidByText := true, laidKinds := [.data, .data, .data, .data, .sentinel, .sentinel, .pinned], laidTests := true, laidLooks := .later }
def GoodsArticlesUptoCardSaid : Prop := Claim7.holds Tryz.pinned (.plain (OpenSpec.upto goodsArticlesSpec)) goodsArticlesUptoCard

/-- THE SECOND FORM's CARD OF 'barrowlaw02.GoodsMatches'. -/
def goodsMatchesUptoCard : Claim7 := { stood := { row := goodsMatchesUptoRow, standIns := [], harness := (true, "70a21523e70b32e21d1561ca6b60239aa887f93bdaf714042d1307a24448ec4f"), looks := true }, kinds := [], alts := [], laidByText := true, laidKinds := [.data, .data, .data, .data, .sentinel, .sentinel, .pinned], laidTests := true, laidLooks := .later }
def GoodsMatchesUptoCardSaid : Prop := Claim7.holds Tryz.pinned (.plain (OpenSpec.upto goodsMatchesSpec)) goodsMatchesUptoCard

/-- THE SECOND FORM's CARD OF 'barrowlaw02.GoodsOrders'. -/
def goodsOrdersUptoCard : Claim7 := { stood := { row := goodsOrdersUptoRow, standIns := [], harness := (true, "70a21523e70b32e21d1561ca6b60239aa887f93bdaf714042d1307a24448ec4f"), looks := true }, kinds := [], alts := [], laidByText := true, laidKinds := [.data, .data, .data, .data, .sentinel, .sentinel, .pinned], laidTests := true, laidLooks := .later }
def GoodsOrdersUptoCardSaid : Prop := Claim7.holds Tryz.pinned (.plain (OpenSpec.upto goodsOrdersSpec)) goodsOrdersUptoCard

/-- THE SECOND FORM's CARD OF 'barrowlaw02.GoodsQuantities'. -/
def goodsQuantitiesUptoCard : Claim7 := { stood := { row := goodsQuantitiesUptoRow, standIns := [], harness := (true, "70a21523e70b32e21d1561ca6b60239aa887f93bdaf714042d1307a24448ec4f"), looks := true }, kinds := [], alts := [], laidByText := true, laidKinds := [.data, .data, .data, .data, .sentinel, .sentinel, .pinned], laidTests := true, laidLooks := .later }
def GoodsQuantitiesUptoCardSaid : Prop := Claim7.holds Tryz.pinned (.plain (OpenSpec.upto goodsQuantitiesSpec)) goodsQuantitiesUptoCard

/-- THE SECOND FORM's CARD OF 'barrowlaw02.GoodsAll'. -/
def goodsAllUptoCard : Claim7 := { stood := { row := goodsAllUptoRow, standIns := [], harness := (true, "70a21523e70b32e21d1561ca6b60239aa887f93bdaf714042d1307a24448ec4f"), looks := true }, kinds := [], alts := [], laidByText := true, laidKinds := [.data, .data, .data, .data, .sentinel, .sentinel, .pinned], laidTests := true, laidLooks := .later }
def GoodsAllUptoCardSaid : Prop := Claim7.holds Tryz.pinned (.plain (OpenSpec.upto goodsAllSpec)) goodsAllUptoCard
end Rows
end Go.Proofs.YtmicghhmbojkfaaGreatDoor
