/- From a row's reading to a list of lists of runs. -/
import Derived.Test.YteldhpneegccjaaBr
namespace Go.Proofs.Yteldhpneegccjaa.Br
open Go.ChangeShapes Go.WideShapes Go.Deep Go.RowKit
open Go.Proofs.Yteldhpneegccjaa.G Go.Proofs.YteldhpneegccjaaW.PrintWords Go.Proofs.YteldhpneegccjaaW.PrintLast Go.Proofs.YteldhpneegccjaaW.PrintMore
set_option linter.unusedVariables false
def DatL {H : Type} (d : DataW H) (L : List (List S26)) : Prop := (L = [] ∧ d = .nil) ∨ ∃ (n : Nat) (D : Nat → DataW H) (R : Nat → List S26) (spare : List (DataW H)), d = .slice ((List.range n).map D) spare ∧ L = (List.range n).map R ∧ ∀ i, i < n → Dat (D i) (R i)
theorem open_rows {H : Type} {enc : TypeId × Value → H} {W : World} {d : DataW H} {p : List MemPlace} {a : Option Addr} {len cap : Nat} {t e : TypeId} (ht : Try.prog.underlying t = some (.slice e)) (he : Try.prog.underlying e = some (.slice 26)) (hc : Try.prog.cellsOf e = 1)
    (h : DataW.Trod enc Try.prog W 0 (fun _ => true) true t (.slice a len cap) d p) :
    ∃ L : List (List S26), L.length = len ∧ L.length ≤ cap ∧ L.length ≤ maxLen ∧ Kd.C (Kd.slice 26 k26) W a L.length L ∧ DatL d L := by
  obtain ⟨fuel, hf⟩ := h
  rcases open_slice1 ht hc hf with ⟨hcs, hx⟩ | ⟨x, l, c, m, n, V, D, Pl, hcs, _, hl, hm, hmm, hx, hi⟩
  · simp only [Value.cells, List.cons.injEq, Value.slice.injEq, and_true] at hcs
    obtain ⟨rfl, rfl, rfl⟩ := hcs
    simp only [Prod.mk.injEq] at hx
    exact ⟨[], rfl, Nat.le_refl _, Nat.zero_le _, ⟨rfl, Nat.zero_le _, fun h => absurd h (by simp)⟩, .inl ⟨rfl, hx.1⟩⟩
  · simp only [Value.cells, List.cons.injEq, Value.slice.injEq, and_true] at hcs
    obtain ⟨rfl, rfl, rfl⟩ := hcs
    simp only [if_true] at hmm
    subst hmm
    have key2 : ∀ i : Nat, ∃ r : List S26, i < m → (∃ A c, V i = .slice A r.length c ∧ r.length ≤ c ∧ Kd.C k26 W A r.length r) ∧ Dat (D i) r := by
      intro i
      by_cases him : i < m
      · obtain ⟨_, ht2⟩ := hi i him
        have hV : ∃ A n c, V i = .slice A n c := by
          rcases open_slice_fields he Try.underlying26 (by kernel_rfl) (by kernel_rfl) ht2 with ⟨h1, _⟩ | ⟨a', l', c', _, _, _, h1, _⟩
          · exact ⟨_, _, _, List.cons.inj h1 |>.1⟩
          · exact ⟨_, _, _, List.cons.inj h1 |>.1⟩
        obtain ⟨A, n', c', hV⟩ := hV
        rw [hV] at ht2
        obtain ⟨r, hr1, hr2, _, _, hr4, hr5⟩ := open_runs (a := A) (len := n') (cap := c') he ⟨n, ht2⟩
        exact ⟨r, fun _ => ⟨⟨A, c', by rw [hr1]; exact hV, hr2, hr4⟩, hr5⟩⟩
      · exact ⟨[], fun h => absurd h him⟩
    obtain ⟨R, hR⟩ := Classical.axiomOfChoice key2
    have hlen : ((List.range len).map R).length = len := by simp
    simp only [Prod.mk.injEq] at hx
    refine ⟨(List.range len).map R, hlen, by rw [hlen]; exact hl, by rw [hlen]; omega, ?_, .inr ⟨len, D, R, _, hx.1, rfl, fun i hil => (hR i (by omega)).2⟩⟩
    refine ⟨rfl, by rw [hlen]; have : maxLen = 9223372036854775807 := rfl; omega, fun _ => ⟨x, rfl, fun j q hj => ?_⟩⟩
    rw [List.getElem?_map] at hj
    rcases Nat.lt_or_ge j len with h1 | h1
    · rw [List.getElem?_range h1] at hj
      simp only [Option.map_some, Option.some.injEq] at hj
      subst hj
      obtain ⟨⟨A, c', hV, hle, hC⟩, _⟩ := hR j (by omega)
      refine ⟨[V j], rfl, ⟨A, c', by rw [hV], hle, hC⟩, fun i u hu => ?_⟩
      match i with
      | 0 =>
        simp only [List.getElem?_cons_zero, Option.some.injEq] at hu
        subst hu
        have := (hi j (by omega)).1
        rw [show j * (Kd.slice 26 k26).sz + 0 = j from Nat.mul_one j]
        exact this
      | k + 1 => simp at hu
    · rw [List.getElem?_eq_none (by simp; omega)] at hj
      simp at hj
theorem dat_bulk1 {H : Type} {d : DataW H} {l : List S26} (hD : Dat d l) : 3 * l.length + 1 ≤ Rows.uptoBulk d := by
  rcases hD with ⟨rfl, rfl⟩ | ⟨elems, spare, rfl, he, h⟩
  · simp [Rows.uptoBulk]
  · have := runs_bulk elems h
    simp only [Rows.uptoBulk]
    omega
theorem rows_bulk {H : Type} (D : Nat → DataW H) (R : Nat → List S26) (I : List Nat) (h : ∀ i ∈ I, Dat (D i) (R i)) : 3 * (I.map R).flatten.length + I.length ≤ Rows.uptoBulkAll (I.map D) := by
  induction I with
  | nil => simp
  | cons x t ih =>
    have h1 := dat_bulk1 (h x (by simp))
    have h2 := ih (fun i hi => h i (by simp [hi]))
    simp only [List.map_cons, List.flatten_cons, List.length_append, List.length_cons, Rows.uptoBulkAll]
    omega
theorem small_rows {H : Type} {d : DataW H} {L : List (List S26)} {ds : List (DataW H)} (hD : DatL d L) (hk : Rows.uptoSmall H ds = true) (hd : d ∈ ds) : L.length ≤ 1048576 ∧ L.flatten.length ≤ 349525 := by
  have h : Rows.uptoBulkAll ds ≤ 1048576 := of_decide_eq_true hk
  have h1 := part_le hd
  rcases hD with ⟨rfl, _⟩ | ⟨n, D, R, spare, rfl, rfl, hDR⟩
  · simp
  · have h2 := rows_bulk D R (List.range n) (fun i hi => hDR i (List.mem_range.1 hi))
    simp only [Rows.uptoBulk] at h1
    simp only [List.length_range] at h2
    simp only [List.length_map, List.length_range]
    omega
end Go.Proofs.Yteldhpneegccjaa.Br
