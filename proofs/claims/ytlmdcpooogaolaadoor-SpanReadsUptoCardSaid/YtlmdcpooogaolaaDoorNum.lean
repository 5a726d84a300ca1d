/- span.number: what it answers for every text: the number that the text writes in its shortest form, from 1 to 1000000000; else 0. -/
import Derived.Test.YtlmdcpooogaolaaDoorGx20
import Derived.Test.YtlmdcpooogaolaaDoorDec
namespace Go.Proofs.YtlmdcpooogaolaaDoor.G
open Go.RowKit Go.Proofs.YtlmdcpooogaolaaDoor.Dec Go.Proofs.YtlmdcpooogaolaaDoorW.PrintWords Go.Proofs.YtlmdcpooogaolaaDoorW.PrintLast
def numL (l : List Int) : Int :=
  if l = [] ∨ 10 < l.length ∨ l.headD 0 = 48 then 0 else if l.all dig = false then 0 else if 1000000000 < val l then 0 else val l
def num (s : ByteArray) : Int := numL (bytesOf s)
theorem bt_range (s : ByteArray) (i : Int) : 0 ≤ bt s i ∧ bt s i ≤ 255 := by
  unfold bt
  split
  · rename_i h; have := UInt8.toNat_lt (s.get i.toNat h); constructor <;> first | omega | (show ((s.get i.toNat h).toNat : Int) ≤ 255; omega)
  · omega
theorem number_l0 (s : ByteArray) (hs : s.size ≤ 10) : ∀ (d i k : Nat) (a : Int), i + d = s.size → d < k → 0 ≤ a → a < 10 ^ i →
    span_number.l0 k s a (s.size : Int) i = some (if ((bytesOf s).drop i).all dig = false then 0 else if 1000000000 < valFrom a ((bytesOf s).drop i) then 0 else valFrom a ((bytesOf s).drop i))
  | 0, i, k, a, hd, hk, h0, ha => by
    obtain ⟨k, rfl⟩ : ∃ m, k = m + 1 := ⟨k - 1, by omega⟩
    rw [List.drop_eq_nil_of_le (by rw [bytesOf_length]; omega)]
    show _ = some (if true = false then 0 else if 1000000000 < a then 0 else a)
    rw [if_neg (by decide)]
    simp only [span_number.l0]
    rw [if_neg (by omega)]
    by_cases h : a > 1000000000
    · rw [if_pos h, if_pos h]
    · rw [if_neg h, if_neg h]
  | d + 1, i, k, a, hd, hk, h0, ha => by
    obtain ⟨k, rfl⟩ : ∃ m, k = m + 1 := ⟨k - 1, by omega⟩
    have hw : wrap64 ((i : Int) + 1) = ((i + 1 : Nat) : Int) := by unfold wrap64; omega
    have hp : (10 : Int) ^ i ≤ 10 ^ 9 := by
      have : (10 : Nat) ^ i ≤ 10 ^ 9 := Nat.pow_le_pow_right (by decide) (by omega)
      exact_mod_cast this
    have hp2 : (10 : Int) ^ (i + 1) = 10 ^ i * 10 := Int.pow_succ 10 i
    rw [bytes_drop s i (by omega), List.all_cons]
    simp only [span_number.l0]
    rw [if_pos (by omega), if_pos (by omega), if_pos (by omega)]
    by_cases h1 : bt s i < 48
    · have e : dig (bt s i) = false := by unfold dig; simp; omega
      rw [if_pos h1, e, Bool.false_and, if_pos rfl]
    · rw [if_neg h1]
      by_cases h2 : bt s i > 57
      · have e : dig (bt s i) = false := by unfold dig; simp; omega
        rw [if_pos h2, e, Bool.false_and, if_pos rfl]
      · have e : dig (bt s i) = true := by unfold dig; simp; omega
        have hw2 : wrap64 (wrap64 (10 * a) + (bt s i - 48) % 256) = a * 10 + (bt s i - 48) := by unfold wrap64; omega
        rw [if_neg h2, hw, hw2, e, Bool.true_and]
        have ih := number_l0 s hs d (i + 1) k (a * 10 + (bt s i - 48)) (by omega) (by omega) (by omega) (by rw [hp2]; omega)
        rw [ih]; rfl
theorem number_eq (s : ByteArray) : span_number.f 12 s = some (num s) := by
  unfold span_number.f num numL
  have hl := bytesOf_length s
  by_cases h0 : s.size = 0
  · have e : bytesOf s = [] := List.eq_nil_of_length_eq_zero (by rw [hl]; exact h0)
    have e2 : s.toList = [] := by rw [ByteArray.toList_eq]; exact List.eq_nil_of_length_eq_zero (by rw [data_length]; exact h0)
    rw [if_pos e2, if_pos (.inl e)]
    simp only [span_number.j0, if_true]
  · have e : bytesOf s ≠ [] := fun h => h0 (by rw [← hl, h]; rfl)
    have e2 : s.toList ≠ [] := fun h => h0 (by rw [← data_length, ← ByteArray.toList_eq, h]; rfl)
    rw [if_neg e2]
    by_cases h1 : (s.size : Int) > 10
    · rw [if_pos h1, if_pos (.inr (.inl (by rw [hl]; omega)))]
      simp only [span_number.j0, if_true]
    · have hh : bt s 0 = (bytesOf s).headD 0 := by
        rw [bt_getD]; cases bytesOf s <;> rfl
      rw [if_neg h1, if_pos (by omega)]
      by_cases h2 : bt s 0 = 48
      · rw [if_pos (.inr (.inr (by rw [← hh]; exact h2)))]
        simp only [span_number.j0, h2, beq_self_eq_true, if_true]
      · have hb : (bt s 0 == 48) = false := by simpa using h2
        rw [if_neg (by rw [hl, ← hh]; intro h; rcases h with h | h | h <;> first | exact e h | omega)]
        have := number_l0 s (by omega) s.size 0 11 0 (by omega) (by omega) (by omega) (by decide)
        simp only [span_number.j0, hb]
        rw [if_neg (by decide)]
        exact this
end Go.Proofs.YtlmdcpooogaolaaDoor.G
