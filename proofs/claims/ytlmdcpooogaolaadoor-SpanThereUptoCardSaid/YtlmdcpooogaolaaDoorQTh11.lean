import Derived.Test.YtlmdcpooogaolaaDoorQTh7
import Derived.Lib.ItoaNum
/- Decimal numerals as lists of bytes: the shortest one of a number; what a row of digits is worth; both ways back. The library's numeral. -/
namespace Go.Proofs.YtlmdcpooogaolaaDoor.Dec
open Go.RowKit Go.Proofs.YtlmdcpooogaolaaDoorW.PrintWords Go.Proofs.YtlmdcpooogaolaaDoorW.PrintLast
/-- A digit's byte. -/
def dig (c : Int) : Bool := decide (48 ≤ c ∧ c ≤ 57)
theorem dig_iff {c : Int} : dig c = true ↔ 48 ≤ c ∧ c ≤ 57 := by unfold dig; simp
/-- The number that a row of digits writes. -/
def valFrom : Int → List Int → Int
  | a, [] => a
  | a, c :: t => valFrom (a * 10 + (c - 48)) t
def val (l : List Int) : Int := valFrom 0 l
/-- A number's digits, none for 0. -/
def sdig (n : Nat) : List Int := if n = 0 then [] else sdig (n / 10) ++ [48 + ((n % 10 : Nat) : Int)]
  termination_by n
  decreasing_by omega
theorem sdig_zero : sdig 0 = [] := by rw [sdig, if_pos rfl]
theorem sdig_pos {n : Nat} (h : 0 < n) : sdig n = sdig (n / 10) ++ [48 + ((n % 10 : Nat) : Int)] := by rw [sdig, if_neg (by omega)]
theorem sdig_dig (n : Nat) : ∀ c ∈ sdig n, 48 ≤ c ∧ c ≤ 57 := by
  induction n using Nat.strongRecOn with
  | _ n ih =>
    by_cases h : n = 0
    · subst h; rw [sdig_zero]; simp
    · rw [sdig_pos (by omega)]
      intro c hc
      rcases List.mem_append.1 hc with hc | hc
      · exact ih _ (by omega) c hc
      · simp at hc; omega
theorem sdig_head (n : Nat) : ∀ c t, sdig n = c :: t → c ≠ 48 := by
  induction n using Nat.strongRecOn with
  | _ n ih =>
    intro c t h
    by_cases h0 : n = 0
    · subst h0; rw [sdig_zero] at h; cases h
    · rw [sdig_pos (by omega)] at h
      by_cases h1 : n / 10 = 0
      · rw [h1, sdig_zero] at h
        injection h with h _
        omega
      · cases hs : sdig (n / 10) with
        | nil => rw [sdig_pos (by omega)] at hs; simp at hs
        | cons d u =>
          rw [hs] at h
          injection h with h _
          rw [← h]
          exact ih _ (by omega) d u hs
/-- A number in decimal. -/
def digs (n : Nat) : List Int := if n = 0 then [48] else sdig n
theorem digs_dig (n : Nat) : ∀ c ∈ digs n, 48 ≤ c ∧ c ≤ 57 := by
  unfold digs
  by_cases h : n = 0
  · rw [if_pos h]; intro c hc; simp at hc; omega
  · rw [if_neg h]; exact sdig_dig n
theorem digs_ne (n : Nat) : digs n ≠ [] := by
  unfold digs
  by_cases h : n = 0
  · rw [if_pos h]; simp
  · rw [if_neg h, sdig_pos (by omega)]; simp
theorem sdig_len (n : Nat) : ∀ e, n < 10 ^ e → (sdig n).length ≤ e := by
  induction n using Nat.strongRecOn with
  | _ n ih =>
    intro e he
    by_cases h : n = 0
    · subst h; rw [sdig_zero]; simp
    · rw [sdig_pos (by omega)]
      cases e with
      | zero => simp at he; omega
      | succ e =>
        have := ih (n / 10) (by omega) e (by rw [Nat.div_lt_iff_lt_mul (by decide)]; rw [← Nat.pow_succ]; exact he)
        simp
        omega
theorem bytesOf_append (s t : ByteArray) : bytesOf (s ++ t) = bytesOf s ++ bytesOf t := by
  unfold bytesOf
  rw [ByteArray.data_append, Array.toList_append, List.map_append]
theorem decDigits_digs (n : Nat) : ((Lib.decDigits n).map fun c => (c.toNat : Int)) = digs n := by
  induction n using Nat.strongRecOn with
  | _ n ih =>
    rw [Lib.decDigits]
    by_cases h : n < 10
    · rw [dif_pos h]
      unfold digs
      have hb : ((UInt8.ofNat (48 + n)).toNat : Int) = 48 + (n : Int) := by rw [UInt8.toNat_ofNat']; omega
      by_cases h0 : n = 0
      · rw [if_pos h0]; subst h0; rfl
      · rw [if_neg h0, sdig_pos (by omega), show n / 10 = 0 from by omega, sdig_zero, show n % 10 = n from by omega, List.map_singleton, hb]; rfl
    · rw [dif_neg h, List.map_append, ih (n / 10) (by omega), List.map_singleton]
      have hb : ((UInt8.ofNat (48 + n % 10)).toNat : Int) = 48 + ((n % 10 : Nat) : Int) := by rw [UInt8.toNat_ofNat']; omega
      rw [hb]
      unfold digs
      rw [if_neg (by omega), if_neg (by omega), sdig_pos (n := n) (by omega)]
theorem valFrom_append : ∀ (l m : List Int) (a : Int), valFrom a (l ++ m) = valFrom (valFrom a l) m
  | [], _, _ => rfl
  | c :: t, m, a => by rw [List.cons_append, valFrom, valFrom, valFrom_append t m]
theorem val_sdig (n : Nat) : valFrom 0 (sdig n) = n := by
  induction n using Nat.strongRecOn with
  | _ n ih =>
    by_cases h : n = 0
    · subst h; rw [sdig_zero]; rfl
    · rw [sdig_pos (by omega), valFrom_append, ih (n / 10) (by omega)]
      simp only [valFrom]
      omega
theorem val_digs (n : Nat) : val (digs n) = n := by
  unfold val digs
  by_cases h : n = 0
  · rw [if_pos h]; subst h; rfl
  · rw [if_neg h, val_sdig]
/-- A text of digits without a 0 in front is its number's text. -/
theorem sdig_val : ∀ (l : List Int) (a : Nat), l.all dig = true → (a = 0 → l.headD 1 ≠ 48) → ∃ n : Nat, valFrom a l = n ∧ sdig n = sdig a ++ l
  | [], a, _, _ => ⟨a, rfl, by simp⟩
  | c :: t, a, hd, h0 => by
    simp only [List.all_cons, Bool.and_eq_true] at hd
    have hc := dig_iff.1 hd.1
    have hpos : 0 < a * 10 + (c - 48).toNat := by
      by_cases ha : a = 0
      · have := h0 ha
        simp at this
        omega
      · omega
    obtain ⟨n, hn, hs⟩ := sdig_val t (a * 10 + (c - 48).toNat) hd.2 (fun e => absurd e (by omega))
    refine ⟨n, ?_, ?_⟩
    · rw [valFrom, ← hn]
      congr 1
      omega
    · rw [hs, sdig_pos hpos, show (a * 10 + (c - 48).toNat) / 10 = a from by omega, show ((48 : Int) + (((a * 10 + (c - 48).toNat) % 10 : Nat) : Int)) = c from by omega]
      simp [List.append_assoc]
theorem digs_val (l : List Int) (hne : l ≠ []) (hd : l.all dig = true) (h0 : ¬ (l.headD 0 = 48 ∧ 1 < l.length)) : ∃ n : Nat, val l = n ∧ digs n = l := by
  by_cases h48 : l.headD 0 = 48
  · have hl : l.length = 1 := by
      have : 0 < l.length := List.length_pos_iff.2 hne
      have : ¬ 1 < l.length := fun h => h0 ⟨h48, h⟩
      omega
    match l, hl with
    | [c], _ =>
      simp at h48
      subst h48
      exact ⟨0, rfl, rfl⟩
  · obtain ⟨n, hn, hs⟩ := sdig_val l 0 hd (fun _ => by
      cases l with
      | nil => exact absurd rfl hne
      | cons c t => simpa using h48)
    refine ⟨n, hn, ?_⟩
    rw [sdig_zero, List.nil_append] at hs
    unfold digs
    rw [if_neg, hs]
    intro e
    subst e
    rw [sdig_zero] at hs
    exact hne hs.symm
theorem bt_getD (s : ByteArray) (i : Int) : bt s i = (bytesOf s).getD i.toNat 0 := by
  unfold bt bytesOf
  by_cases h : i.toNat < s.size
  · rw [dif_pos h, List.getD_eq_getElem?_getD, List.getElem?_map]
    rw [List.getElem?_eq_getElem (by simpa using h)]
    rfl
  · rw [dif_neg h, List.getD_eq_getElem?_getD, List.getElem?_eq_none (by simp; omega)]
    rfl
theorem bytes_drop (s : ByteArray) (i : Nat) (h : i < s.size) : (bytesOf s).drop i = bt s i :: (bytesOf s).drop (i + 1) := by
  rw [List.drop_eq_getElem_cons (by rw [bytesOf_length]; exact h), bt_getD, List.getD_eq_getElem?_getD, List.getElem?_eq_getElem (by rw [bytesOf_length]; simpa using h)]
  simp
end Go.Proofs.YtlmdcpooogaolaaDoor.Dec

/- span.number: what it answers for every text: the number that the text writes in its shortest form, from 1 to 1000000000; else 0. -/
namespace Go.Proofs.YtlmdcpooogaolaaDoor.G
open Go.RowKit Go.Proofs.YtlmdcpooogaolaaDoor.Dec Go.Proofs.YtlmdcpooogaolaaDoorW.PrintWords Go.Proofs.YtlmdcpooogaolaaDoorW.PrintLast
def numL (l : List Int) : Int :=
  if l = [] ∨ 10 < l.length ∨ l.headD 0 = 48 then 0 else if l.all dig = false then 0 else if 1000000000 < val l then 0 else val l
def num (s : ByteArray) : Int := numL (bytesOf s)
theorem number_l0 (s : ByteArray) (hs : s.size ≤ 10) : ∀ (d i k : Nat) (a : Int), i + d = s.size → d < k → 0 ≤ a → a < 10 ^ i →
    span_number.l0 k s a (s.size : Int) i = some (if ((bytesOf s).drop i).all dig = false then 0 else if 1000000000 < valFrom a ((bytesOf s).drop i) then 0 else valFrom a ((bytesOf s).drop i))
  | 0, i, k, a, hd, hk, h0, ha => by
    obtain ⟨k, rfl⟩ : ∃ m, k = m + 1 := ⟨k - 1, by omega⟩
    rw [List.drop_eq_nil_of_le (by rw [bytesOf_length]; omega)]
    show _ = some (if true = false then 0 else if 1000000000 < a then 0 else a)
    rw [if_neg (by decide)]
    simp only [span_number.l0]
    rw [if_neg (by omega)]
    by_cases h : a > 1000000000
    · rw [if_pos h, if_pos h]
    · rw [if_neg h, if_neg h]
  | d + 1, i, k, a, hd, hk, h0, ha => by
    obtain ⟨k, rfl⟩ : ∃ m, k = m + 1 := ⟨k - 1, by omega⟩
    have hw : wrap64 ((i : Int) + 1) = ((i + 1 : Nat) : Int) := by unfold wrap64; omega
    have hp : (10 : Int) ^ i ≤ 10 ^ 9 := by
      have : (10 : Nat) ^ i ≤ 10 ^ 9 := Nat.pow_le_pow_right (by decide) (by omega)
      exact_mod_cast this
    have hp2 : (10 : Int) ^ (i + 1) = 10 ^ i * 10 := Int.pow_succ 10 i
    rw [bytes_drop s i (by omega), List.all_cons]
    simp only [span_number.l0]
    rw [if_pos (by omega), if_pos (by omega), if_pos (by omega)]
    by_cases h1 : bt s i < 48
    · have e : dig (bt s i) = false := by unfold dig; simp; omega
      rw [if_pos h1, e, Bool.false_and, if_pos rfl]
    · rw [if_neg h1]
      by_cases h2 : bt s i > 57
      · have e : dig (bt s i) = false := by unfold dig; simp; omega
        rw [if_pos h2, e, Bool.false_and, if_pos rfl]
      · have e : dig (bt s i) = true := by unfold dig; simp; omega
        have hw2 : wrap64 (wrap64 (10 * a) + (bt s i - 48) % 256) = a * 10 + (bt s i - 48) := by unfold wrap64; omega
        rw [if_neg h2, hw, hw2, e, Bool.true_and]
        have ih := number_l0 s hs d (i + 1) k (a * 10 + (bt s i - 48)) (by omega) (by omega) (by omega) (by rw [hp2]; omega)
        rw [ih]; rfl
theorem number_eq (s : ByteArray) : span_number.f 12 s = some (num s) := by
  unfold span_number.f num numL
  have hl := bytesOf_length s
  by_cases h0 : s.size = 0
  · have e : bytesOf s = [] := List.eq_nil_of_length_eq_zero (by rw [hl]; exact h0)
    have e2 : s.toList = [] := by rw [ByteArray.toList_eq]; exact List.eq_nil_of_length_eq_zero (by rw [data_length]; exact h0)
    rw [if_pos e2, if_pos (.inl e)]
    simp only [span_number.j0, if_true]
  · have e : bytesOf s ≠ [] := fun h => h0 (by rw [← hl, h]; rfl)
    have e2 : s.toList ≠ [] := fun h => h0 (by rw [← data_length, ← ByteArray.toList_eq, h]; rfl)
    rw [if_neg e2]
    by_cases h1 : (s.size : Int) > 10
    · rw [if_pos h1, if_pos (.inr (.inl (by rw [hl]; omega)))]
      simp only [span_number.j0, if_true]
    · have hh : bt s 0 = (bytesOf s).headD 0 := by
        rw [bt_getD]; cases bytesOf s <;> rfl
      rw [if_neg h1, if_pos (by omega)]
      by_cases h2 : bt s 0 = 48
      · rw [if_pos (.inr (.inr (by rw [← hh]; exact h2)))]
        simp only [span_number.j0, h2, beq_self_eq_true, if_true]
      · have hb : (bt s 0 == 48) = false := by simpa using h2
        rw [if_neg (by rw [hl, ← hh]; intro h; rcases h with h | h | h <;> first | exact e h | omega)]
        have := number_l0 s (by omega) s.size 0 11 0 (by omega) (by omega) (by omega) (by decide)
        simp only [span_number.j0, hb]
        rw [if_neg (by decide)]
        exact this
end Go.Proofs.YtlmdcpooogaolaaDoor.G
