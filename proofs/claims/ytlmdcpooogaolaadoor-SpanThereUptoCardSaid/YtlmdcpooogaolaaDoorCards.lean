/-
  DERIVED. GIVEN WITH THE SEED: THE CARDS: each row of YtlmdcpooogaolaaDoorRows.lean that lists a variable, with what it lists TIED to the program's text (the seventh form; the later family's looks); each row that meets fmt, with fmt's text TOLD by the authors' own Lean function (tested against real Go, not proved from fmt's source: count such statements apart). THE CARD IS WHAT COUNTS. Prove the row's statement (the work); the ties are given (YtlmdcpooogaolaaDoorTie.lean); close each card by the builder's one call (the guide's Derived/Test/ToyasCard.lean, 'card_holds'). Laid BY PROGRAM, IN A SANDBOX (cutbox-door.mjs). By AI agents, Wed Nov 11 2026. No macro, syntax, notation, axiom, sorry.
-/
import Derived.Test.YtlmdcpooogaolaaDoorRows
import GoSem.ClaimSeven
namespace Go.Proofs.YtlmdcpooogaolaaDoor
namespace Rows

/-- THE TIED CARD OF 'barrowlaw01.SpanReads'. -/
def spanReadsCard : Claim7 := { stood := { row := spanReadsRow, standIns := [], harness := (true, "861102c46f27123a1d2b69a77be216f5f97123e96c053c1361d0aca859be3ddf"), looks := false }, kinds := [], alts := [], laidByText := true, laidKinds := [.data, .pinned], laidTests := true, laidLooks := .later }
def SpanReadsCardSaid : Prop := Claim7.holds Tryd.pinned (.plain (OpenSpec.ofChange spanReadsSpec)) spanReadsCard

/-- THE TIED CARD OF 'barrowlaw01.SpanShows'. -/
def spanShowsCard : Claim7 := { stood := { row := spanShowsRow, standIns := [], harness := (true, "861102c46f27123a1d2b69a77be216f5f97123e96c053c1361d0aca859be3ddf"), looks := false }, kinds := [], alts := [], laidByText := true, laidKinds := [.data, .data, .data], laidTests := true, laidLooks := .later }
def SpanShowsCardSaid : Prop := Claim7.holds Tryd.pinned (.plain (OpenSpec.ofChange spanShowsSpec)) spanShowsCard

/-- THE TIED CARD OF 'barrowlaw01.SpanThere'. -/
def spanThereCard : Claim7 := { stood := { row := spanThereRow, standIns := [], harness := (true, "861102c46f27123a1d2b69a77be216f5f97123e96c053c1361d0aca859be3ddf"), looks := false }, kinds := [], alts := [], laidByText := true, laidKinds := [.data, .data, .data, .data, .pinned], laidTests := true, laidLooks := .later }
def SpanThereCardSaid : Prop := Claim7.holds Tryd.pinned (.plain (OpenSpec.ofChange spanThereSpec)) spanThereCard

/-- THE SECOND FORM's CARD OF 'barrowlaw01.SpanReads'. -/
def spanReadsUptoCard : Claim7 := { stood := { row := spanReadsUptoRow, standIns := [], harness := (true, "861102c46f27123a1d2b69a77be216f5f97123e96c053c1361d0aca859be3ddf"), looks := false }, kinds := [], alts := [], laidByText := true, laidKinds := [.data, .pinned], laidTests := true, laidLooks := .later }
def SpanReadsUptoCardSaid : Prop := Claim7.holds Tryd.pinned (.plain (OpenSpec.upto spanReadsSpec)) spanReadsUptoCard

/-- THE SECOND FORM's CARD OF 'barrowlaw01.SpanShows'. -/
def spanShowsUptoCard : Claim7 := { stood := { row := spanShowsUptoRow, standIns := [], harness := (true, "861102c46f27123a1d2b69a77be216f5f97123e96c053c1361d0aca859be3ddf"), looks := false }, kinds := [], alts := [], laidByText := true, laidKinds := [.data, .data, .data], laidTests := true, laidLooks := .later }
def SpanShowsUptoCardSaid : Prop := Claim7.holds Tryd.pinned (.plain (OpenSpec.upto spanShowsSpec)) spanShowsUptoCard

/-- THE SECOND FORM's CARD OF 'barrowlaw01.SpanThere'. -/
def spanThereUptoCard : Claim7 := { stood := { row := spanThereUptoRow, standIns := [], harness := (true, "861102c46f27123a1d2b69a77be216f5f97123e96c053c1361d0aca859be3ddf"), looks := false }, kinds := [], alts := [], laidByText := true, laidKinds := [.data, .data, .data, .data, .pinned], laidTests := true, laidLooks := .later }
def SpanThereUptoCardSaid : Prop := Claim7.holds Tryd.pinned (.plain (OpenSpec.upto spanThereSpec)) spanThereUptoCard
end Rows
end Go.Proofs.YtlmdcpooogaolaaDoor
