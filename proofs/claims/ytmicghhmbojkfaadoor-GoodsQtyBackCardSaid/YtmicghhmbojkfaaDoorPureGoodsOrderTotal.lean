/- GoodsOrderTotal: Compare of any three texts is a total order. For every three texts; no condition. -/
import Derived.Test.YtmicghhmbojkfaaDoorGx5
import Derived.Test.YtmicghhmbojkfaaDoorCe
namespace Go.Proofs.YtmicghhmbojkfaaDoor.Pure
open Go.RowKit Go.Proofs.YtmicghhmbojkfaaDoor.G Go.Proofs.YtmicghhmbojkfaaDoor.Ord Go.Proofs.YtmicghhmbojkfaaDoorW.PrintWords Go.Proofs.YtmicghhmbojkfaaDoorW.PrintLast
theorem natural_7A : natural [55] [65] = -1 := by decide +kernel
theorem toList_eq_iff (a b : ByteArray) : (a.toList == b.toList) = decide (bytesOf a = bytesOf b) := by
  rw [Bool.eq_iff_iff, beq_iff_eq, decide_eq_true_eq, ByteArray.toList_eq, ByteArray.toList_eq]
  constructor
  · intro h; unfold bytesOf; rw [h]
  · intro h; rw [bytesOf_inj h]
theorem neg64 {x : Int} (h : x = -1 ∨ x = 0 ∨ x = 1) : wrap64 (-x) = -x := by unfold wrap64; omega
theorem GoodsOrderTotal (a0 a1 a2 : ByteArray) (h0 : a0.size ≤ 140737488351232) (h1 : a1.size ≤ 140737488351232) (h2 : a2.size ≤ 140737488351232) :
    ∃ k, barrowlaw02_GoodsOrderTotal.f k a0 a1 a2 = some true := by
  obtain ⟨K, hK0, hK1, hK2⟩ : ∃ K, 5 * (a0.size + a1.size + a2.size) + 20 ≤ K ∧ 20 ≤ K ∧ K = K := ⟨5 * (a0.size + a1.size + a2.size) + 20, by omega, by omega, rfl⟩
  refine ⟨K + 5, ?_⟩
  have s1 : ((⟨#[55]⟩ : ByteArray)).size = 1 := rfl
  have s2 : ((⟨#[65]⟩ : ByteArray)).size = 1 := rfl
  have b1 : bytesOf (⟨#[55]⟩ : ByteArray) = [55] := rfl
  have b2 : bytesOf (⟨#[65]⟩ : ByteArray) = [65] := rfl
  unfold barrowlaw02_GoodsOrderTotal.f
  rw [compare_eq _ _ (by omega) (by omega) _ (by omega), Option.bind_some, b1, b2, natural_7A, if_pos rfl, compare_eq _ _ (by omega) (by omega) _ (by omega), Option.bind_some, b1, b2, natural_anti [55] [65], natural_7A]
  rw [barrowlaw02_GoodsOrderTotal.j0, if_neg (by decide)]
  rw [compare_eq a0 a1 (by omega) (by omega) _ (by omega), compare_eq a1 a2 (by omega) (by omega) _ (by omega), compare_eq a0 a2 (by omega) (by omega) _ (by omega), compare_eq a1 a0 (by omega) (by omega) _ (by omega), compare_eq a2 a1 (by omega) (by omega) _ (by omega), compare_eq a2 a0 (by omega) (by omega) _ (by omega)]
  simp only [Option.bind_some]
  have z1 := natural_zero (a := bytesOf a0) (b := bytesOf a1)
  have z2 := natural_zero (a := bytesOf a1) (b := bytesOf a2)
  have z3 := natural_zero (a := bytesOf a0) (b := bytesOf a2)
  rw [natural_anti (bytesOf a0) (bytesOf a1), natural_anti (bytesOf a1) (bytesOf a2), natural_anti (bytesOf a0) (bytesOf a2)]
  have r1 := natural_range (bytesOf a0) (bytesOf a1)
  have r2 := natural_range (bytesOf a1) (bytesOf a2)
  have r3 := natural_range (bytesOf a0) (bytesOf a2)
  have t1 := @natural_le_trans (bytesOf a0) (bytesOf a1) (bytesOf a2)
  have t2 := @natural_le_trans (bytesOf a2) (bytesOf a1) (bytesOf a0)
  rw [natural_anti (bytesOf a0) (bytesOf a1), natural_anti (bytesOf a1) (bytesOf a2), natural_anti (bytesOf a0) (bytesOf a2)] at t2
  have e1 := toList_eq_iff a0 a1
  have e2 := toList_eq_iff a1 a2
  have e3 := toList_eq_iff a0 a2
  generalize natural (bytesOf a0) (bytesOf a1) = x at *
  generalize natural (bytesOf a1) (bytesOf a2) = y at *
  generalize natural (bytesOf a0) (bytesOf a2) = z at *
  have n1 : wrap64 (- -x) = x := by rw [Int.neg_neg]; unfold wrap64; omega
  have n2 : wrap64 (- -y) = y := by rw [Int.neg_neg]; unfold wrap64; omega
  have n3 : wrap64 (- -z) = z := by rw [Int.neg_neg]; unfold wrap64; omega
  rw [n1, n2, n3, if_pos rfl, if_pos rfl]
  have bz : (z != z) = false := by simp
  rw [bz, barrowlaw02_GoodsOrderTotal.j1, if_neg (by decide), if_neg (by omega), if_neg (by omega), if_neg (by omega), decide_eq_false (by omega)]
  rw [barrowlaw02_GoodsOrderTotal.j2, if_neg (by decide), e1, e2, e3]
  have z1_ : (x == 0) = decide (bytesOf a0 = bytesOf a1) := by rw [Bool.eq_iff_iff, decide_eq_true_eq, beq_iff_eq]; exact z1
  have c1 : ((x == 0) != decide (bytesOf a0 = bytesOf a1)) = false := by
    rw [← z1_]; simp
  have z2_ : (y == 0) = decide (bytesOf a1 = bytesOf a2) := by rw [Bool.eq_iff_iff, decide_eq_true_eq, beq_iff_eq]; exact z2
  have c2 : ((y == 0) != decide (bytesOf a1 = bytesOf a2)) = false := by
    rw [← z2_]; simp
  have z3_ : (z == 0) = decide (bytesOf a0 = bytesOf a2) := by rw [Bool.eq_iff_iff, decide_eq_true_eq, beq_iff_eq]; exact z3
  have c3 : ((z == 0) != decide (bytesOf a0 = bytesOf a2)) = false := by
    rw [← z3_]; simp
  rw [c1, c2, c3, if_neg (by decide), if_neg (by decide), barrowlaw02_GoodsOrderTotal.j3, if_neg (by decide)]
  clear c1 c2 c3 z1_ z2_ z3_ z1 z2 z3 e1 e2 e3 n1 n2 n3 bz
  rcases r1 with rfl | rfl | rfl <;> rcases r2 with rfl | rfl | rfl <;> rcases r3 with rfl | rfl | rfl <;> first | (exfalso; omega) | (simp only [barrowlaw02_GoodsOrderTotal.j4]; rfl) | skip
end Go.Proofs.YtmicghhmbojkfaaDoor.Pure
