/- GoodsSortHolds: what its calls answer, plainly. -/
import Derived.Test.YthkpmldjbogngaaDoorSto
import Derived.Test.YthkpmldjbogngaaDoorSx5
namespace Go.Proofs.YthkpmldjbogngaaDoor.SP
open Go.RowKit Go.Proofs.YthkpmldjbogngaaDoor.S Go.Proofs.YthkpmldjbogngaaDoor.Ord Go.Proofs.YthkpmldjbogngaaDoorW.PrintWords Go.Proofs.YthkpmldjbogngaaDoorW.PrintLast
def sA10 : ByteArray := ⟨#[65, 49, 48]⟩
def sA2 : ByteArray := ⟨#[65, 50]⟩
def sOver : ByteArray := ⟨#[111, 118, 101, 114]⟩
def sSpare : ByteArray := ⟨#[115, 112, 97, 114, 101]⟩
theorem up1 (i n : Nat) (h : i + n ≤ 17592186044416) : wrap64 ((i : Int) + 1) = ((i + 1 : Nat) : Int) := by unfold wrap64; omega
theorem first_sort : goods_Sort.f [sA10, sA2, sA10] = some [sA2, sA10] := by
  obtain ⟨r, h1, h2, h3⟩ := prog_sort [sA10, sA2, sA10] (fun x hx => by
    simp only [List.mem_cons, List.not_mem_nil, or_false] at hx
    rcases hx with rfl | rfl | rfl
    · exact of_decide_eq_true rfl
    · exact of_decide_eq_true rfl
    · exact of_decide_eq_true rfl) (by simp)
  have n1 : natural [65, 50] [65, 49, 48] = -1 := by decide +kernel
  have h4 : SS [sA2, sA10] := List.pairwise_cons.2 ⟨fun x hx => by
    rw [List.mem_singleton] at hx
    subst hx
    exact n1, by simp⟩
  rw [h1, ss_ext h2 h4 (fun x => by
    rw [h3 x]
    simp only [List.mem_cons, List.not_mem_nil, or_false]
    constructor
    · rintro (h | h | h)
      · exact .inr h
      · exact .inl h
      · exact .inr h
    · rintro (h | h)
      · exact .inr (.inl h)
      · exact .inl h)]
theorem over_sort (n : Nat) (hn : n ≤ 8796093022208) : ∃ r, goods_Sort.f (List.replicate n sOver) = some r ∧ r.length ≤ 1 ∧ (0 < n → r = [sOver]) := by
  obtain ⟨r, h1, h2, h3⟩ := prog_sort (List.replicate n sOver) (fun x hx => by
    rw [(List.mem_replicate.1 hx).2]
    exact of_decide_eq_true rfl) (by simpa using hn)
  by_cases h0 : 0 < n
  · have e : r = [sOver] := ss_ext h2 (by unfold SS; simp) (fun x => by
      rw [h3 x, List.mem_replicate, List.mem_singleton]
      exact ⟨fun h => h.2, fun h => ⟨by omega, h⟩⟩)
    exact ⟨r, h1, by rw [e]; simp, fun _ => e⟩
  · have e : r = [] := by
      cases r with
      | nil => rfl
      | cons x t =>
        have := (h3 x).1 (by simp)
        rw [List.mem_replicate] at this
        omega
    exact ⟨r, h1, by rw [e]; simp, fun h => absurd h h0⟩
theorem sort_le {l r : List ByteArray} (h : goods_Sort.f l = some r) : r.length ≤ l.length := by
  unfold goods_Sort.f at h
  split at h
  · injection h with h
    rw [← h]
    exact Nat.le_trans (compactB_le _) (by rw [sortL_length]; exact Nat.le_refl _)
  · cases h
theorem same_l0 (r : List ByteArray) (hr : r.length ≤ 8796093022208) : ∀ (d i : Nat), i + d = r.length → Ev (fun k => barrowlaw02_same.l0 k r r i) true
  | 0, i, hi => Ev.step (f := fun _ => some true) (fun k => by rw [barrowlaw02_same.l0, if_neg (by omega)]) (Ev.now true)
  | d + 1, i, hi => Ev.step (f := fun k => barrowlaw02_same.l0 k r r ((i + 1 : Nat) : Int)) (fun k => by
      rw [barrowlaw02_same.l0, if_pos (by omega), if_pos (by omega), if_pos (by omega), if_pos rfl, up1 i 0 (by omega)]) (same_l0 r hr d (i + 1) (by omega))
theorem same_ev (r : List ByteArray) (hr : r.length ≤ 8796093022208) : ∃ k, barrowlaw02_same.f k r r = some true :=
  (Ev.congr (fun k => if_pos rfl) (same_l0 r hr r.length 0 (by omega)) : Ev (fun k => barrowlaw02_same.f k r r) true).rounds
/-- Neighbours rise. -/
theorem rise {r : List ByteArray} (h : SS r) (hok : ∀ x ∈ r, x.size ≤ 1152921504606846976) (i : Nat) (hi : i + 1 < r.length) :
    ∃ k, goods_Compare.f k (r.getD i ByteArray.empty) (r.getD (i + 1) ByteArray.empty) = some (-1) := by
  have e1 : r.getD i ByteArray.empty = r[i] := by rw [List.getD_eq_getElem?_getD, List.getElem?_eq_getElem (by omega)]; rfl
  have e2 : r.getD (i + 1) ByteArray.empty = r[i + 1] := by rw [List.getD_eq_getElem?_getD, List.getElem?_eq_getElem hi]; rfl
  rw [e1, e2]
  have h1 := List.pairwise_iff_getElem.1 h i (i + 1) (by omega) hi (by omega)
  have h2 := compare_eq r[i] r[i + 1] (hok _ (List.getElem_mem _)) (hok _ (List.getElem_mem _)) _ (Nat.le_refl _)
  exact ⟨_, by rw [h2]; exact congrArg some h1⟩
end Go.Proofs.YthkpmldjbogngaaDoor.SP
