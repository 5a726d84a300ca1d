/-
  No cell of these rows narrows 'for every input' (looked for: loops, veiled, ifaces, maps, wideKeys, modest, calm, conditions, laid).
  DERIVED. THE GIVEN ROWS OF THIS SEAT. 14 by the template 'for every input the law returns true; each argument reads behind the call as it read before'; 0 by the template 'total and deterministic' (their statements: YteldhpneegccjaaTotals.lean).
  GIVEN WITH THE SEED: the statements are not yours to turn. If you find one false, say at which input.
  Laid BY PROGRAM, IN A SANDBOX (cutbox-rows.mjs): the forced cells as the released guide's own fill.sh prints them over the translation e4339d59c2840587… (all of the seat's roots in one cut). By AI agents, Wed Nov 11 2026. No macro, syntax, notation, axiom, sorry.
-/
import Derived.Test.YteldhpneegccjaaChecked
import GoSem.Claim
import GoSem.ClaimJoined
import GoSem.ClaimMapViews
import Derived.JoinedTies
import Derived.KernelRfl
namespace Go.Proofs.Yteldhpneegccjaa
/- THE CELL 'sum', in the pinned program and in every row, IS THE sha256 OF THE DUMP (.gsa) THAT YteldhpneegccjaaProg.lean LOADS. Nothing in Lean hashes anything: it is a label: what it is worth is what the hold of that sum in a sandbox is worth. -/
noncomputable def Try.pinned : Pinned := { name := "yteldhpneegccjaa", sum := "e4339d59c284058720e66872102a0c1db25add5453460be659e7b25a1f0e0bfd", checked := Try.checked }
namespace Rows
def none {H : Type} : Left H := { results := [], args := [] }

/-- 'barrowlaw01.SpanUnions': WHATEVER THE INPUT: true; the input reads as it did. -/
def spanUnionsSpec : ChangeSpec := { name := "spanUnions", fn := fun _ => fun
  | [d] => { results := [.lit (.bool true)], args := [d] }
  | _ => none }
def spanUnionsRow : OpenClaim := { program := "yteldhpneegccjaa", sum := "e4339d59c284058720e66872102a0c1db25add5453460be659e7b25a1f0e0bfd", func := "barrow/barrowlaw01.SpanUnions", spec := "spanUnions", unfollowed := true, recurses := true, apart := false }
def SpanUnionsSaid : Prop := spanUnionsRow.holds Try.pinned (OpenSpec.ofChange spanUnionsSpec)

/-- ITS FALSE NEIGHBOUR: 'it returns false'. Refute it at one input. -/
def spanUnionsWrong : ChangeSpec := { name := "spanUnions", fn := fun _ => fun
  | [d] => { results := [.lit (.bool false)], args := [d] }
  | _ => none }
def SpanUnionsWrongFalsely : Prop := spanUnionsRow.holds Try.pinned (OpenSpec.ofChange spanUnionsWrong)

/-- 'barrowlaw01.SpanWalks': WHATEVER THE INPUT: true; the input reads as it did. -/
def spanWalksSpec : ChangeSpec := { name := "spanWalks", fn := fun _ => fun
  | [d1, d2] => { results := [.lit (.bool true)], args := [d1, d2] }
  | _ => none }
def spanWalksRow : OpenClaim := { program := "yteldhpneegccjaa", sum := "e4339d59c284058720e66872102a0c1db25add5453460be659e7b25a1f0e0bfd", func := "barrow/barrowlaw01.SpanWalks", spec := "spanWalks", unfollowed := true, recurses := true, apart := false }
def SpanWalksSaid : Prop := spanWalksRow.holds Try.pinned (OpenSpec.ofChange spanWalksSpec)

/-- ITS FALSE NEIGHBOUR: 'it returns false'. Refute it at one input. -/
def spanWalksWrong : ChangeSpec := { name := "spanWalks", fn := fun _ => fun
  | [d1, d2] => { results := [.lit (.bool false)], args := [d1, d2] }
  | _ => none }
def SpanWalksWrongFalsely : Prop := spanWalksRow.holds Try.pinned (OpenSpec.ofChange spanWalksWrong)

/-- 'barrowlaw01.SpanRanks': WHATEVER THE INPUT: true; the input reads as it did. -/
def spanRanksSpec : ChangeSpec := { name := "spanRanks", fn := fun _ => fun
  | [d1, d2] => { results := [.lit (.bool true)], args := [d1, d2] }
  | _ => none }
def spanRanksRow : OpenClaim := { program := "yteldhpneegccjaa", sum := "e4339d59c284058720e66872102a0c1db25add5453460be659e7b25a1f0e0bfd", func := "barrow/barrowlaw01.SpanRanks", spec := "spanRanks", unfollowed := true, recurses := true, apart := false }
def SpanRanksSaid : Prop := spanRanksRow.holds Try.pinned (OpenSpec.ofChange spanRanksSpec)

/-- ITS FALSE NEIGHBOUR: 'it returns false'. Refute it at one input. -/
def spanRanksWrong : ChangeSpec := { name := "spanRanks", fn := fun _ => fun
  | [d1, d2] => { results := [.lit (.bool false)], args := [d1, d2] }
  | _ => none }
def SpanRanksWrongFalsely : Prop := spanRanksRow.holds Try.pinned (OpenSpec.ofChange spanRanksWrong)

/-- 'barrowlaw01.SpanForms': WHATEVER THE INPUT: true; the input reads as it did. -/
def spanFormsSpec : ChangeSpec := { name := "spanForms", fn := fun _ => fun
  | [d] => { results := [.lit (.bool true)], args := [d] }
  | _ => none }
def spanFormsRow : OpenClaim := { program := "yteldhpneegccjaa", sum := "e4339d59c284058720e66872102a0c1db25add5453460be659e7b25a1f0e0bfd", func := "barrow/barrowlaw01.SpanForms", spec := "spanForms", unfollowed := true, recurses := true, apart := false }
def SpanFormsSaid : Prop := spanFormsRow.holds Try.pinned (OpenSpec.ofChange spanFormsSpec)

/-- ITS FALSE NEIGHBOUR: 'it returns false'. Refute it at one input. -/
def spanFormsWrong : ChangeSpec := { name := "spanForms", fn := fun _ => fun
  | [d] => { results := [.lit (.bool false)], args := [d] }
  | _ => none }
def SpanFormsWrongFalsely : Prop := spanFormsRow.holds Try.pinned (OpenSpec.ofChange spanFormsWrong)

/-- 'barrowlaw01.SpanHalves': WHATEVER THE INPUT: true; the input reads as it did. -/
def spanHalvesSpec : ChangeSpec := { name := "spanHalves", fn := fun _ => fun
  | [d1, d2] => { results := [.lit (.bool true)], args := [d1, d2] }
  | _ => none }
def spanHalvesRow : OpenClaim := { program := "yteldhpneegccjaa", sum := "e4339d59c284058720e66872102a0c1db25add5453460be659e7b25a1f0e0bfd", func := "barrow/barrowlaw01.SpanHalves", spec := "spanHalves", unfollowed := true, recurses := true, apart := false }
def SpanHalvesSaid : Prop := spanHalvesRow.holds Try.pinned (OpenSpec.ofChange spanHalvesSpec)

/-- ITS FALSE NEIGHBOUR: 'it returns false'. Refute it at one input. -/
def spanHalvesWrong : ChangeSpec := { name := "spanHalves", fn := fun _ => fun
  | [d1, d2] => { results := [.lit (.bool false)], args := [d1, d2] }
  | _ => none }
def SpanHalvesWrongFalsely : Prop := spanHalvesRow.holds Try.pinned (OpenSpec.ofChange spanHalvesWrong)

/-- 'barrowlaw01.SpanSets': WHATEVER THE INPUT: true; the input reads as it did. -/
def spanSetsSpec : ChangeSpec := { name := "spanSets", fn := fun _ => fun
  | [d1, d2] => { results := [.lit (.bool true)], args := [d1, d2] }
  | _ => none }
def spanSetsRow : OpenClaim := { program := "yteldhpneegccjaa", sum := "e4339d59c284058720e66872102a0c1db25add5453460be659e7b25a1f0e0bfd", func := "barrow/barrowlaw01.SpanSets", spec := "spanSets", unfollowed := true, recurses := true, apart := false }
def SpanSetsSaid : Prop := spanSetsRow.holds Try.pinned (OpenSpec.ofChange spanSetsSpec)

/-- ITS FALSE NEIGHBOUR: 'it returns false'. Refute it at one input. -/
def spanSetsWrong : ChangeSpec := { name := "spanSets", fn := fun _ => fun
  | [d1, d2] => { results := [.lit (.bool false)], args := [d1, d2] }
  | _ => none }
def SpanSetsWrongFalsely : Prop := spanSetsRow.holds Try.pinned (OpenSpec.ofChange spanSetsWrong)

/-- 'barrowlaw01.SpanFinds': WHATEVER THE INPUT: true; the input reads as it did. -/
def spanFindsSpec : ChangeSpec := { name := "spanFinds", fn := fun _ => fun
  | [d1, d2] => { results := [.lit (.bool true)], args := [d1, d2] }
  | _ => none }
def spanFindsRow : OpenClaim := { program := "yteldhpneegccjaa", sum := "e4339d59c284058720e66872102a0c1db25add5453460be659e7b25a1f0e0bfd", func := "barrow/barrowlaw01.SpanFinds", spec := "spanFinds", unfollowed := true, recurses := true, apart := false }
def SpanFindsSaid : Prop := spanFindsRow.holds Try.pinned (OpenSpec.ofChange spanFindsSpec)

/-- ITS FALSE NEIGHBOUR: 'it returns false'. Refute it at one input. -/
def spanFindsWrong : ChangeSpec := { name := "spanFinds", fn := fun _ => fun
  | [d1, d2] => { results := [.lit (.bool false)], args := [d1, d2] }
  | _ => none }
def SpanFindsWrongFalsely : Prop := spanFindsRow.holds Try.pinned (OpenSpec.ofChange spanFindsWrong)

/-- 'barrowlaw01.SpanChanges': WHATEVER THE INPUT: true; the input reads as it did. -/
def spanChangesSpec : ChangeSpec := { name := "spanChanges", fn := fun _ => fun
  | [d1, d2] => { results := [.lit (.bool true)], args := [d1, d2] }
  | _ => none }
def spanChangesRow : OpenClaim := { program := "yteldhpneegccjaa", sum := "e4339d59c284058720e66872102a0c1db25add5453460be659e7b25a1f0e0bfd", func := "barrow/barrowlaw01.SpanChanges", spec := "spanChanges", unfollowed := true, recurses := true, apart := false }
def SpanChangesSaid : Prop := spanChangesRow.holds Try.pinned (OpenSpec.ofChange spanChangesSpec)

/-- ITS FALSE NEIGHBOUR: 'it returns false'. Refute it at one input. -/
def spanChangesWrong : ChangeSpec := { name := "spanChanges", fn := fun _ => fun
  | [d1, d2] => { results := [.lit (.bool false)], args := [d1, d2] }
  | _ => none }
def SpanChangesWrongFalsely : Prop := spanChangesRow.holds Try.pinned (OpenSpec.ofChange spanChangesWrong)

/-- 'barrowlaw01.SpanOrders': WHATEVER THE INPUT: true; the input reads as it did. -/
def spanOrdersSpec : ChangeSpec := { name := "spanOrders", fn := fun _ => fun
  | [d1, d2] => { results := [.lit (.bool true)], args := [d1, d2] }
  | _ => none }
def spanOrdersRow : OpenClaim := { program := "yteldhpneegccjaa", sum := "e4339d59c284058720e66872102a0c1db25add5453460be659e7b25a1f0e0bfd", func := "barrow/barrowlaw01.SpanOrders", spec := "spanOrders", unfollowed := true, recurses := true, apart := false }
def SpanOrdersSaid : Prop := spanOrdersRow.holds Try.pinned (OpenSpec.ofChange spanOrdersSpec)

/-- ITS FALSE NEIGHBOUR: 'it returns false'. Refute it at one input. -/
def spanOrdersWrong : ChangeSpec := { name := "spanOrders", fn := fun _ => fun
  | [d1, d2] => { results := [.lit (.bool false)], args := [d1, d2] }
  | _ => none }
def SpanOrdersWrongFalsely : Prop := spanOrdersRow.holds Try.pinned (OpenSpec.ofChange spanOrdersWrong)

/-- 'barrowlaw01.SpanMembers': WHATEVER THE INPUT: true; the input reads as it did. -/
def spanMembersSpec : ChangeSpec := { name := "spanMembers", fn := fun _ => fun
  | [d1, d2, d3] => { results := [.lit (.bool true)], args := [d1, d2, d3] }
  | _ => none }
def spanMembersRow : OpenClaim := { program := "yteldhpneegccjaa", sum := "e4339d59c284058720e66872102a0c1db25add5453460be659e7b25a1f0e0bfd", func := "barrow/barrowlaw01.SpanMembers", spec := "spanMembers", unfollowed := true, recurses := true, apart := false }
def SpanMembersSaid : Prop := spanMembersRow.holds Try.pinned (OpenSpec.ofChange spanMembersSpec)

/-- ITS FALSE NEIGHBOUR: 'it returns false'. Refute it at one input. -/
def spanMembersWrong : ChangeSpec := { name := "spanMembers", fn := fun _ => fun
  | [d1, d2, d3] => { results := [.lit (.bool false)], args := [d1, d2, d3] }
  | _ => none }
def SpanMembersWrongFalsely : Prop := spanMembersRow.holds Try.pinned (OpenSpec.ofChange spanMembersWrong)

/-- 'barrowlaw01.SpanGalois': WHATEVER THE INPUT: true; the input reads as it did. -/
def spanGaloisSpec : ChangeSpec := { name := "spanGalois", fn := fun _ => fun
  | [d1, d2, d3] => { results := [.lit (.bool true)], args := [d1, d2, d3] }
  | _ => none }
def spanGaloisRow : OpenClaim := { program := "yteldhpneegccjaa", sum := "e4339d59c284058720e66872102a0c1db25add5453460be659e7b25a1f0e0bfd", func := "barrow/barrowlaw01.SpanGalois", spec := "spanGalois", unfollowed := true, recurses := true, apart := false }
def SpanGaloisSaid : Prop := spanGaloisRow.holds Try.pinned (OpenSpec.ofChange spanGaloisSpec)

/-- ITS FALSE NEIGHBOUR: 'it returns false'. Refute it at one input. -/
def spanGaloisWrong : ChangeSpec := { name := "spanGalois", fn := fun _ => fun
  | [d1, d2, d3] => { results := [.lit (.bool false)], args := [d1, d2, d3] }
  | _ => none }
def SpanGaloisWrongFalsely : Prop := spanGaloisRow.holds Try.pinned (OpenSpec.ofChange spanGaloisWrong)

/-- 'barrowlaw01.SpanUnique': WHATEVER THE INPUT: true; the input reads as it did. -/
def spanUniqueSpec : ChangeSpec := { name := "spanUnique", fn := fun _ => fun
  | [d1, d2] => { results := [.lit (.bool true)], args := [d1, d2] }
  | _ => none }
def spanUniqueRow : OpenClaim := { program := "yteldhpneegccjaa", sum := "e4339d59c284058720e66872102a0c1db25add5453460be659e7b25a1f0e0bfd", func := "barrow/barrowlaw01.SpanUnique", spec := "spanUnique", unfollowed := true, recurses := true, apart := false }
def SpanUniqueSaid : Prop := spanUniqueRow.holds Try.pinned (OpenSpec.ofChange spanUniqueSpec)

/-- ITS FALSE NEIGHBOUR: 'it returns false'. Refute it at one input. -/
def spanUniqueWrong : ChangeSpec := { name := "spanUnique", fn := fun _ => fun
  | [d1, d2] => { results := [.lit (.bool false)], args := [d1, d2] }
  | _ => none }
def SpanUniqueWrongFalsely : Prop := spanUniqueRow.holds Try.pinned (OpenSpec.ofChange spanUniqueWrong)

/-- 'barrowlaw01.SpanGrows': WHATEVER THE INPUT: true; the input reads as it did. -/
def spanGrowsSpec : ChangeSpec := { name := "spanGrows", fn := fun _ => fun
  | [d] => { results := [.lit (.bool true)], args := [d] }
  | _ => none }
def spanGrowsRow : OpenClaim := { program := "yteldhpneegccjaa", sum := "e4339d59c284058720e66872102a0c1db25add5453460be659e7b25a1f0e0bfd", func := "barrow/barrowlaw01.SpanGrows", spec := "spanGrows", unfollowed := true, recurses := true, apart := false }
def SpanGrowsSaid : Prop := spanGrowsRow.holds Try.pinned (OpenSpec.ofChange spanGrowsSpec)

/-- ITS FALSE NEIGHBOUR: 'it returns false'. Refute it at one input. -/
def spanGrowsWrong : ChangeSpec := { name := "spanGrows", fn := fun _ => fun
  | [d] => { results := [.lit (.bool false)], args := [d] }
  | _ => none }
def SpanGrowsWrongFalsely : Prop := spanGrowsRow.holds Try.pinned (OpenSpec.ofChange spanGrowsWrong)

/-- 'barrowlaw01.SpanCounts': WHATEVER THE INPUT: true; the input reads as it did. -/
def spanCountsSpec : ChangeSpec := { name := "spanCounts", fn := fun _ => fun
  | [d1, d2, d3] => { results := [.lit (.bool true)], args := [d1, d2, d3] }
  | _ => none }
def spanCountsRow : OpenClaim := { program := "yteldhpneegccjaa", sum := "e4339d59c284058720e66872102a0c1db25add5453460be659e7b25a1f0e0bfd", func := "barrow/barrowlaw01.SpanCounts", spec := "spanCounts", unfollowed := true, recurses := true, apart := false }
def SpanCountsSaid : Prop := spanCountsRow.holds Try.pinned (OpenSpec.ofChange spanCountsSpec)

/-- ITS FALSE NEIGHBOUR: 'it returns false'. Refute it at one input. -/
def spanCountsWrong : ChangeSpec := { name := "spanCounts", fn := fun _ => fun
  | [d1, d2, d3] => { results := [.lit (.bool false)], args := [d1, d2, d3] }
  | _ => none }
def SpanCountsWrongFalsely : Prop := spanCountsRow.holds Try.pinned (OpenSpec.ofChange spanCountsWrong)

/- THE SECOND FORM. 'bulk': how many values and letters a reading holds, each counted each time it is reached (what is shared counts as often as it is met; a slice's spare places count too). A statement '..UptoSaid' is the law's where the arguments, and the package variables that the reading takes, are together of bulk at most 1048576: NARROWER than '..Said'. Prove '..Said' where nothing that the law and all that it calls make is longer than what came in: it says more and counts as full. Else prove '..UptoSaid'. A law counts once. -/
mutual
def uptoBulk {H : Type} : DataW H → Nat
  | .lit (.string bytes) => bytes.length + 1
  | .lit _ => 1
  | .nil => 1
  | .ptr d => uptoBulk d + 1
  | .slice elems spare => uptoBulkAll elems + uptoBulkAll spare + 1
  | .agg parts => uptoBulkAll parts + 1
  | .iface _ d => uptoBulk d + 1
  | .map entries => uptoBulkEntries entries + 1
  | .held _ => 1
def uptoBulkAll {H : Type} : List (DataW H) → Nat
  | [] => 0
  | d :: r => uptoBulk d + uptoBulkAll r
def uptoBulkEntries {H : Type} : List (Lit × DataW H) → Nat
  | [] => 0
  | x :: r => uptoBulkEntry x + uptoBulkEntries r
def uptoBulkEntry {H : Type} : Lit × DataW H → Nat
  | (.string bytes, d) => bytes.length + uptoBulk d + 1
  | (_, d) => uptoBulk d + 1
 end
def uptoSmall : (H : Type) → List (DataW H) → Bool := fun _ ds => decide (uptoBulkAll ds ≤ 1048576)
def OpenSpec.upto (s : _root_.Go.ChangeSpec) : _root_.Go.OpenSpec := { _root_.Go.OpenSpec.ofChange s with cond := some uptoSmall }

/-- 'barrowlaw01.SpanUnions', WHERE WHAT IT READS IS OF BULK AT MOST 1048576: true; the input reads as it did. -/
def spanUnionsUptoRow : OpenClaim := { program := "yteldhpneegccjaa", sum := "e4339d59c284058720e66872102a0c1db25add5453460be659e7b25a1f0e0bfd", func := "barrow/barrowlaw01.SpanUnions", spec := "spanUnions", unfollowed := true, recurses := true, apart := false, narrowed := true }
def SpanUnionsUptoSaid : Prop := spanUnionsUptoRow.holds Try.pinned (OpenSpec.upto spanUnionsSpec)

/-- 'barrowlaw01.SpanWalks', WHERE WHAT IT READS IS OF BULK AT MOST 1048576: true; the input reads as it did. -/
def spanWalksUptoRow : OpenClaim := { program := "yteldhpneegccjaa", sum := "e4339d59c284058720e66872102a0c1db25add5453460be659e7b25a1f0e0bfd", func := "barrow/barrowlaw01.SpanWalks", spec := "spanWalks", unfollowed := true, recurses := true, apart := false, narrowed := true }
def SpanWalksUptoSaid : Prop := spanWalksUptoRow.holds Try.pinned (OpenSpec.upto spanWalksSpec)

/-- 'barrowlaw01.SpanRanks', WHERE WHAT IT READS IS OF BULK AT MOST 1048576: true; the input reads as it did. -/
def spanRanksUptoRow : OpenClaim := { program := "yteldhpneegccjaa", sum := "e4339d59c284058720e66872102a0c1db25add5453460be659e7b25a1f0e0bfd", func := "barrow/barrowlaw01.SpanRanks", spec := "spanRanks", unfollowed := true, recurses := true, apart := false, narrowed := true }
def SpanRanksUptoSaid : Prop := spanRanksUptoRow.holds Try.pinned (OpenSpec.upto spanRanksSpec)

/-- 'barrowlaw01.SpanForms', WHERE WHAT IT READS IS OF BULK AT MOST 1048576: true; the input reads as it did. -/
def spanFormsUptoRow : OpenClaim := { program := "yteldhpneegccjaa", sum := "e4339d59c284058720e66872102a0c1db25add5453460be659e7b25a1f0e0bfd", func := "barrow/barrowlaw01.SpanForms", spec := "spanForms", unfollowed := true, recurses := true, apart := false, narrowed := true }
def SpanFormsUptoSaid : Prop := spanFormsUptoRow.holds Try.pinned (OpenSpec.upto spanFormsSpec)

/-- 'barrowlaw01.SpanHalves', WHERE WHAT IT READS IS OF BULK AT MOST 1048576: true; the input reads as it did. -/
def spanHalvesUptoRow : OpenClaim := { program := "yteldhpneegccjaa", sum := "e4339d59c284058720e66872102a0c1db25add5453460be659e7b25a1f0e0bfd", func := "barrow/barrowlaw01.SpanHalves", spec := "spanHalves", unfollowed := true, recurses := true, apart := false, narrowed := true }
def SpanHalvesUptoSaid : Prop := spanHalvesUptoRow.holds Try.pinned (OpenSpec.upto spanHalvesSpec)

/-- 'barrowlaw01.SpanSets', WHERE WHAT IT READS IS OF BULK AT MOST 1048576: true; the input reads as it did. -/
def spanSetsUptoRow : OpenClaim := { program := "yteldhpneegccjaa", sum := "e4339d59c284058720e66872102a0c1db25add5453460be659e7b25a1f0e0bfd", func := "barrow/barrowlaw01.SpanSets", spec := "spanSets", unfollowed := true, recurses := true, apart := false, narrowed := true }
def SpanSetsUptoSaid : Prop := spanSetsUptoRow.holds Try.pinned (OpenSpec.upto spanSetsSpec)

/-- 'barrowlaw01.SpanFinds', WHERE WHAT IT READS IS OF BULK AT MOST 1048576: true; the input reads as it did. -/
def spanFindsUptoRow : OpenClaim := { program := "yteldhpneegccjaa", sum := "e4339d59c284058720e66872102a0c1db25add5453460be659e7b25a1f0e0bfd", func := "barrow/barrowlaw01.SpanFinds", spec := "spanFinds", unfollowed := true, recurses := true, apart := false, narrowed := true }
def SpanFindsUptoSaid : Prop := spanFindsUptoRow.holds Try.pinned (OpenSpec.upto spanFindsSpec)

/-- 'barrowlaw01.SpanChanges', WHERE WHAT IT READS IS OF BULK AT MOST 1048576: true; the input reads as it did. -/
def spanChangesUptoRow : OpenClaim := { program := "yteldhpneegccjaa", sum := "e4339d59c284058720e66872102a0c1db25add5453460be659e7b25a1f0e0bfd", func := "barrow/barrowlaw01.SpanChanges", spec := "spanChanges", unfollowed := true, recurses := true, apart := false, narrowed := true }
def SpanChangesUptoSaid : Prop := spanChangesUptoRow.holds Try.pinned (OpenSpec.upto spanChangesSpec)

/-- 'barrowlaw01.SpanOrders', WHERE WHAT IT READS IS OF BULK AT MOST 1048576: true; the input reads as it did. -/
def spanOrdersUptoRow : OpenClaim := { program := "yteldhpneegccjaa", sum := "e4339d59c284058720e66872102a0c1db25add5453460be659e7b25a1f0e0bfd", func := "barrow/barrowlaw01.SpanOrders", spec := "spanOrders", unfollowed := true, recurses := true, apart := false, narrowed := true }
def SpanOrdersUptoSaid : Prop := spanOrdersUptoRow.holds Try.pinned (OpenSpec.upto spanOrdersSpec)

/-- 'barrowlaw01.SpanMembers', WHERE WHAT IT READS IS OF BULK AT MOST 1048576: true; the input reads as it did. -/
def spanMembersUptoRow : OpenClaim := { program := "yteldhpneegccjaa", sum := "e4339d59c284058720e66872102a0c1db25add5453460be659e7b25a1f0e0bfd", func := "barrow/barrowlaw01.SpanMembers", spec := "spanMembers", unfollowed := true, recurses := true, apart := false, narrowed := true }
def SpanMembersUptoSaid : Prop := spanMembersUptoRow.holds Try.pinned (OpenSpec.upto spanMembersSpec)

/-- 'barrowlaw01.SpanGalois', WHERE WHAT IT READS IS OF BULK AT MOST 1048576: true; the input reads as it did. -/
def spanGaloisUptoRow : OpenClaim := { program := "yteldhpneegccjaa", sum := "e4339d59c284058720e66872102a0c1db25add5453460be659e7b25a1f0e0bfd", func := "barrow/barrowlaw01.SpanGalois", spec := "spanGalois", unfollowed := true, recurses := true, apart := false, narrowed := true }
def SpanGaloisUptoSaid : Prop := spanGaloisUptoRow.holds Try.pinned (OpenSpec.upto spanGaloisSpec)

/-- 'barrowlaw01.SpanUnique', WHERE WHAT IT READS IS OF BULK AT MOST 1048576: true; the input reads as it did. -/
def spanUniqueUptoRow : OpenClaim := { program := "yteldhpneegccjaa", sum := "e4339d59c284058720e66872102a0c1db25add5453460be659e7b25a1f0e0bfd", func := "barrow/barrowlaw01.SpanUnique", spec := "spanUnique", unfollowed := true, recurses := true, apart := false, narrowed := true }
def SpanUniqueUptoSaid : Prop := spanUniqueUptoRow.holds Try.pinned (OpenSpec.upto spanUniqueSpec)

/-- 'barrowlaw01.SpanGrows', WHERE WHAT IT READS IS OF BULK AT MOST 1048576: true; the input reads as it did. -/
def spanGrowsUptoRow : OpenClaim := { program := "yteldhpneegccjaa", sum := "e4339d59c284058720e66872102a0c1db25add5453460be659e7b25a1f0e0bfd", func := "barrow/barrowlaw01.SpanGrows", spec := "spanGrows", unfollowed := true, recurses := true, apart := false, narrowed := true }
def SpanGrowsUptoSaid : Prop := spanGrowsUptoRow.holds Try.pinned (OpenSpec.upto spanGrowsSpec)

/-- 'barrowlaw01.SpanCounts', WHERE WHAT IT READS IS OF BULK AT MOST 1048576: true; the input reads as it did. -/
def spanCountsUptoRow : OpenClaim := { program := "yteldhpneegccjaa", sum := "e4339d59c284058720e66872102a0c1db25add5453460be659e7b25a1f0e0bfd", func := "barrow/barrowlaw01.SpanCounts", spec := "spanCounts", unfollowed := true, recurses := true, apart := false, narrowed := true }
def SpanCountsUptoSaid : Prop := spanCountsUptoRow.holds Try.pinned (OpenSpec.upto spanCountsSpec)

end Rows
end Go.Proofs.Yteldhpneegccjaa
