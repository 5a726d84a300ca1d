/- From a row's reading to a list of numbers: what the walk wants of a slice of numbers that came in. -/
import Derived.Test.YtceojhapfblafaaTb
import Derived.Test.YtceojhapfblafaaRows
import Derived.ChangeSlices
import Derived.ChangeSame
import Derived.SizedLaws
import Derived.WalkKit
import Derived.ProofKit
import Derived.OpenShut
namespace Go.Proofs.Ytceojhapfblafaa.Br
open Go.ChangeShapes Go.WideShapes Go.Deep Go.RowKit
open Go.Proofs.Ytceojhapfblafaa.G Go.Proofs.YtceojhapfblafaaW.PrintWords Go.Proofs.YtceojhapfblafaaW.PrintLast
set_option linter.unusedVariables false
theorem lits_bulk {H : Type} (k : IntKind) : ∀ l : List Int, Rows.uptoBulkAll (lits (H := H) k l) = l.length
  | [] => rfl
  | x :: t => by
    have ih := lits_bulk (H := H) k t
    simp only [lits, List.map_cons] at ih ⊢
    simp only [Rows.uptoBulkAll, Rows.uptoBulk, ih, List.length_cons]
    omega
theorem open_nums {H : Type} {enc : TypeId × Value → H} {W : World} {d : DataW H} {p : List MemPlace} {a : Option Addr} {len cap : Nat}
    (h : DataW.Trod enc Try.prog W 0 (fun _ => true) true 22 (.slice a len cap) d p) :
    ∃ l : List Int, l.length = len ∧ Kd.C (Kd.int .i64) W a len l ∧ len ≤ cap ∧ (a = none → cap = 0) ∧ len ≤ Rows.uptoBulk d := by
  obtain ⟨fuel, hf⟩ := h
  rcases open_ints Try.underlying22 Try.underlying3 (by kernel_rfl) hf with ⟨hcs, _⟩ | ⟨x, l, c, zs, hcs, _, hl, hm, hz, hx, hcell, hwz⟩
  · simp [Value.cells] at hcs
    obtain ⟨rfl, rfl, rfl⟩ := hcs
    exact ⟨[], rfl, ⟨rfl, by decide, fun h => absurd h (by decide)⟩, Nat.le_refl _, fun _ => rfl, Nat.zero_le _⟩
  · simp [Value.cells] at hcs
    obtain ⟨rfl, rfl, rfl⟩ := hcs
    rw [if_pos rfl] at hz
    have ht : (zs.take len).length = len := by rw [List.length_take, hz]; omega
    refine ⟨zs.take len, ht, ?_, hl, (fun e => by cases e), ?_⟩
    · have hb : len ≤ 9223372036854775807 := by have : maxLen = 9223372036854775807 := rfl; omega
      have := C_of_iv (w := W) (ad := x) (l := zs.take len) (by omega) (fun j u hu => by
        unfold iv at hu
        rw [List.getElem?_map] at hu
        obtain ⟨y, hy, rfl⟩ := Option.map_eq_some_iff.1 hu
        have hj := (List.getElem?_eq_some_iff.1 hy).1
        rw [ht] at hj
        rw [List.getElem?_take_of_lt hj] at hy
        have h1 := hcell j (by omega)
        rw [List.getD_eq_getElem?_getD, hy] at h1
        exact h1)
      rw [ht] at this
      exact this
    · have e : d = .slice (lits .i64 (zs.take len)) (lits .i64 (zs.drop len)) := by simpa using congrArg Prod.fst hx
      rw [e]
      simp only [Rows.uptoBulk, lits_bulk]
      omega
theorem part_le {H : Type} {d : DataW H} {l : List (DataW H)} (h : d ∈ l) : Rows.uptoBulk d ≤ Rows.uptoBulkAll l := by
  induction l with
  | nil => cases h
  | cons x r ih =>
    simp only [Rows.uptoBulkAll]
    cases List.mem_cons.1 h with
    | inl e => subst e; omega
    | inr e => have := ih e; omega
theorem small_nums {H : Type} {d : DataW H} {n : Nat} {ds : List (DataW H)} (hD : n ≤ Rows.uptoBulk d) (hk : Rows.uptoSmall H ds = true) (hd : d ∈ ds) : n ≤ 1048576 := by
  have h : Rows.uptoBulkAll ds ≤ 1048576 := of_decide_eq_true hk
  have := part_le hd
  omega
end Go.Proofs.Ytceojhapfblafaa.Br
