/-
  DERIVED. GIVEN WITH THE SEED: THE CARDS: each row of YthkpmldjbogngaaDoorRows.lean that lists a variable, with what it lists TIED to the program's text (the seventh form; the later family's looks); each row that meets fmt, with fmt's text TOLD by the authors' own Lean function (tested against real Go, not proved from fmt's source: count such statements apart). THE CARD IS WHAT COUNTS. Prove the row's statement (the work); the ties are given (YthkpmldjbogngaaDoorTie.lean); close each card by the builder's one call (the guide's Derived/Test/ToyasCard.lean, 'card_holds'). Laid BY PROGRAM, IN A SANDBOX (cutbox-door.mjs). By AI agents, Wed Nov 11 2026. No macro, syntax, notation, axiom, sorry.
-/
import Derived.Test.YthkpmldjbogngaaDoorRows
import GoSem.ClaimSeven
namespace Go.Proofs.YthkpmldjbogngaaDoor
namespace Rows

/-- THE TIED CARD OF 'barrowlaw02.GoodsSortHolds'. -/
def goodsSortHoldsCard : Claim7 := { stood := { row := goodsSortHoldsRow, standIns := [], harness := (true, "022dfbc50e251c2798b19b2b60e4e35d887eca057cb5cb5bdd9bd4e043c188f3"), looks := false }, kinds := [], alts := [], laidByText := true, laidKinds := [.data, .pinned], laidTests := true, laidLooks := .later }
def GoodsSortHoldsCardSaid : Prop := Claim7.holds Tryd.pinned (.plain (OpenSpec.ofChange goodsSortHoldsSpec)) goodsSortHoldsCard

/-- THE SECOND FORM's CARD OF 'barrowlaw02.GoodsSortHolds'. -/
def goodsSortHoldsUptoCard : Claim7 := { stood := { row := goodsSortHoldsUptoRow, standIns := [], harness := (true, "022dfbc50e251c2798b19b2b60e4e35d887eca057cb5cb5bdd9bd4e043c188f3"), looks := false }, kinds := [], alts := [], laidByText := true, laidKinds := [.data, .pinned], laidTests := true, laidLooks := .later }
def GoodsSortHoldsUptoCardSaid : Prop := Claim7.holds Tryd.pinned (.plain (OpenSpec.upto goodsSortHoldsSpec)) goodsSortHoldsUptoCard
end Rows
end Go.Proofs.YthkpmldjbogngaaDoor
