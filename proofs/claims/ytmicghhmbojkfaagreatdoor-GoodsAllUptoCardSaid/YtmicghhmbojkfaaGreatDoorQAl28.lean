import Derived.Test.YtmicghhmbojkfaaGreatDoorQAl26
import Derived.Test.YtmicghhmbojkfaaGreatDoorQAl24
import Derived.Test.YtmicghhmbojkfaaGreatDoorQAl9
/- Plain lemmas on article numbers: what Digit, Gtin and Widen answer, read off the list of a text's bytes. -/
namespace Go.Proofs.YtmicghhmbojkfaaGreatDoor.PA
open Go.Proofs.YtmicghhmbojkfaaGreatDoor.G hiding bytesOf_length
open Go.RowKit Go.Proofs.YtmicghhmbojkfaaGreatDoorW.PrintWords Go.Proofs.YtmicghhmbojkfaaGreatDoorW.PrintLast

/-- The weighted sum, the last digit first. -/
def wsum : List Int → Nat → Int
  | [], _ => 0
  | c :: t, i => (if i % 2 = 0 then 3 else 1) * (c - 48) + wsum t (i + 1)
def chkL (l : List Int) : Int := (10 - wsum l.reverse 0 % 10) % 10
def digitL (l : List Int) : Int × Int :=
  if l = [] then (0, 20) else if 13 < l.length then (0, 21) else if l.length = 7 ∨ l.length = 11 ∨ l.length = 12 ∨ l.length = 13 then (if l.all digitI = true then (chkL l, 0) else (0, 22)) else (0, 2)
def gtinL (l : List Int) : Int × Int :=
  if l = [] then (0, 20) else if 14 < l.length then (0, 21) else if l.length = 8 ∨ l.length = 12 ∨ l.length = 13 ∨ l.length = 14 then
    (if l.all digitI = true then (if chkL l.dropLast = l.getLastD 0 - 48 then ((l.length : Int), 0) else (0, 23)) else (0, 22)) else (0, 2)
def widenL (l : List Int) : List Int × Int := if (gtinL l).2 = 0 then (List.replicate (14 - l.length) 48 ++ l, 0) else ([], (gtinL l).2)

theorem index_l0 (xs : List Int) (x : Int) (hn : xs.length ≤ 1000) : ∀ (d i k : Nat), i + d = xs.length → d < k →
    ∃ r, slices_Index_int_int.l0 k xs x (xs.length : Int) i = some r ∧ (0 ≤ r ↔ x ∈ xs.drop i)
  | 0, i, k, hd, hk => by
    obtain ⟨k, rfl⟩ : ∃ m, k = m + 1 := ⟨k - 1, by omega⟩
    refine ⟨-1, by simp only [slices_Index_int_int.l0]; rw [if_neg (by omega)], ?_⟩
    rw [List.drop_eq_nil_of_le (by omega)]
    simp
  | d + 1, i, k, hd, hk => by
    obtain ⟨k, rfl⟩ : ∃ m, k = m + 1 := ⟨k - 1, by omega⟩
    have hi : i < xs.length := by omega
    obtain ⟨r, hr, h⟩ := index_l0 xs x hn d (i + 1) k (by omega) (by omega)
    have hw : wrap64 ((i : Int) + 1) = ((i + 1 : Nat) : Int) := by unfold wrap64; omega
    have hrd : rd xs (i : Int) = xs[i] := by unfold rd; rw [List.getD_eq_getElem?_getD, Int.toNat_natCast, List.getElem?_eq_getElem hi]; rfl
    rw [List.drop_eq_getElem_cons hi, List.mem_cons]
    by_cases hx : x = xs[i]
    · refine ⟨i, ?_, by rw [hx]; simp⟩
      simp only [slices_Index_int_int.l0]
      rw [if_pos (by omega), if_pos (by omega), if_pos (by omega), hrd, if_pos hx]
    · refine ⟨r, ?_, by rw [h]; simp [hx]⟩
      simp only [slices_Index_int_int.l0]
      rw [if_pos (by omega), if_pos (by omega), if_pos (by omega), hrd, if_neg hx, hw, hr]
theorem contains_eq (xs : List Int) (x : Int) (hn : xs.length ≤ 1000) (k : Nat) (hk : xs.length < k) : slices_Contains_int_int.f k xs x = some (decide (x ∈ xs)) := by
  obtain ⟨r, hr, h⟩ := index_l0 xs x hn xs.length 0 k (by omega) hk
  unfold slices_Contains_int_int.f slices_Index_int_int.f
  rw [show ((0 : Nat) : Int) = 0 from rfl] at hr
  rw [hr]
  simp only [Option.bind_some, ge_iff_le, h, List.drop_zero]
theorem digits_l0 (s : ByteArray) (hs : s.size ≤ 1000) : ∀ (d i k : Nat), i + d = s.size → d < k →
    goods_digits.l0 k s (s.size : Int) i = some (((bytesOf s).drop i).all digitI)
  | 0, i, k, hd, hk => by
    obtain ⟨k, rfl⟩ : ∃ m, k = m + 1 := ⟨k - 1, by omega⟩
    rw [List.drop_eq_nil_of_le (by rw [bytesOf_length]; omega)]
    simp only [goods_digits.l0]
    rw [if_neg (by omega)]; rfl
  | d + 1, i, k, hd, hk => by
    obtain ⟨k, rfl⟩ : ∃ m, k = m + 1 := ⟨k - 1, by omega⟩
    have ih := digits_l0 s hs d (i + 1) k (by omega) (by omega)
    have hw : wrap64 ((i : Int) + 1) = ((i + 1 : Nat) : Int) := by unfold wrap64; omega
    rw [bytesOf_drop s i (by omega), List.all_cons]
    simp only [goods_digits.l0]
    rw [if_pos (by omega), if_pos (by omega), if_pos (by omega), isDigit_eq]
    simp only [Option.bind_some]
    by_cases h : digitI (bt s i) = true
    · rw [if_pos h, hw, ih, h, Bool.true_and]
    · rw [if_neg h]
      have : digitI (bt s i) = false := by simpa using h
      rw [this, Bool.false_and]
theorem digits_eq (s : ByteArray) (hs : s.size ≤ 1000) (k : Nat) (hk : s.size < k) : goods_digits.f k s = some ((bytesOf s).all digitI) := by
  have := digits_l0 s hs s.size 0 k (by omega) hk
  unfold goods_digits.f
  simpa using this
theorem bytesOf_nil (s : ByteArray) : s.toList = ([] : List UInt8) ↔ bytesOf s = [] := by
  rw [← List.length_eq_zero_iff, ← List.length_eq_zero_iff, bytesOf_length, ByteArray.toList_eq s]
  simp
def weights : List Int := [3, 1, 3, 1, 3, 1, 3, 1, 3, 1, 3, 1, 3]
theorem rd_weights (i : Nat) (h : i < 13) : rd weights (i : Int) = if i % 2 = 0 then 3 else 1 := by
  have : ∀ n : Fin 13, rd weights (n.1 : Int) = if n.1 % 2 = 0 then 3 else 1 := by decide +kernel
  exact this ⟨i, h⟩
theorem rev_drop (s : ByteArray) (i : Nat) (h : i < s.size) : (bytesOf s).reverse.drop i = bt s ((s.size - 1 - i : Nat) : Int) :: (bytesOf s).reverse.drop (i + 1) := by
  have hl : i < (bytesOf s).reverse.length := by rw [List.length_reverse, bytesOf_length]; exact h
  rw [List.drop_eq_getElem_cons hl]
  congr 1
  rw [List.getElem_reverse, bt_getD, List.getD_eq_getElem?_getD, Int.toNat_natCast, List.getElem?_eq_getElem (by rw [bytesOf_length]; omega)]
  simp [bytesOf_length]
theorem digit_l0 (s : ByteArray) (hs : s.size ≤ 13) (hd : (bytesOf s).all digitI = true) : ∀ (d i k : Nat) (x : Int), i + d = s.size → d < k → 0 ≤ x → x ≤ 27 * i →
    goods_Digit.l0 k s weights x (s.size : Int) i = some ((10 - (x + wsum ((bytesOf s).reverse.drop i) i) % 10) % 10, 0)
  | 0, i, k, x, hi, hk, h0, h1 => by
    obtain ⟨k, rfl⟩ : ∃ m, k = m + 1 := ⟨k - 1, by omega⟩
    rw [List.drop_eq_nil_of_le (by rw [List.length_reverse, bytesOf_length]; omega)]
    simp only [goods_Digit.l0]
    rw [if_neg (by omega)]
    simp only [wsum, Int.add_zero]
    rw [Int.tmod_eq_emod_of_nonneg h0]
    have hw : wrap64 (10 - x % 10) = 10 - x % 10 := by unfold wrap64; omega
    rw [hw, Int.tmod_eq_emod_of_nonneg (by omega)]
  | d + 1, i, k, x, hi, hk, h0, h1 => by
    obtain ⟨k, rfl⟩ : ∃ m, k = m + 1 := ⟨k - 1, by omega⟩
    have hlt : i < s.size := by omega
    have hdg : digitI (bt s ((s.size - 1 - i : Nat) : Int)) = true := by
      rw [List.all_eq_true] at hd
      apply hd
      have := rev_drop s i hlt
      have hm : bt s ((s.size - 1 - i : Nat) : Int) ∈ (bytesOf s).reverse.drop i := by rw [this]; exact List.mem_cons_self
      exact List.mem_reverse.1 (List.mem_of_mem_drop hm)
    have hb : 48 ≤ bt s ((s.size - 1 - i : Nat) : Int) ∧ bt s ((s.size - 1 - i : Nat) : Int) ≤ 57 := by unfold digitI at hdg; simpa using hdg
    have hw : wrap64 ((i : Int) + 1) = ((i + 1 : Nat) : Int) := by unfold wrap64; omega
    have hw2 : wrap64 (wrap64 ((s.size : Int) - 1) - i) = ((s.size - 1 - i : Nat) : Int) := by
      have e : wrap64 ((s.size : Int) - 1) = (s.size : Int) - 1 := by unfold wrap64; omega
      rw [e]; unfold wrap64; omega
    rw [rev_drop s i hlt]
    generalize hc : bt s ((s.size - 1 - i : Nat) : Int) = c at hb
    have hwt := rd_weights i (by omega)
    have hm : (c - 48) % 256 = c - 48 := by omega
    have hp : wrap64 ((if i % 2 = 0 then 3 else 1) * (c - 48)) = (if i % 2 = 0 then 3 else 1) * (c - 48) := by split <;> (unfold wrap64; omega)
    have hq : 0 ≤ (if i % 2 = 0 then (3 : Int) else 1) * (c - 48) ∧ (if i % 2 = 0 then (3 : Int) else 1) * (c - 48) ≤ 27 := by split <;> omega
    obtain ⟨q, e2⟩ : ∃ q, (if i % 2 = 0 then (3 : Int) else 1) * (c - 48) = q := ⟨_, rfl⟩
    rw [e2] at hp hq
    have hx : wrap64 (x + q) = x + q := by unfold wrap64; omega
    have ih := digit_l0 s hs hd d (i + 1) k (x + q) (by omega) (by omega) (by omega) (by omega)
    simp only [goods_Digit.l0]
    rw [if_pos (by omega), if_pos (by omega), if_pos (by simp [weights]; omega), hw2, if_pos (by omega), if_pos (by omega), hwt, hc, hm]
    simp only [wsum]
    rw [hw]
    rw [e2, hp, hx, ih, Int.add_assoc]
theorem digit_eq (s : ByteArray) (k : Nat) (hk : 20 < k) : goods_Digit.f k s = some (digitL (bytesOf s)) := by
  unfold goods_Digit.f digitL
  by_cases h0 : bytesOf s = []
  · rw [if_pos ((bytesOf_nil s).2 h0), if_pos h0]
  · rw [if_neg (fun h => h0 ((bytesOf_nil s).1 h)), if_neg h0, bytesOf_length]
    by_cases h13 : 13 < s.size
    · rw [if_pos (by omega), if_pos h13]
    · rw [if_neg (by omega), if_neg h13, contains_eq _ _ (by simp) k (by simp; omega)]
      simp only [Option.bind_some]
      by_cases hl : s.size = 7 ∨ s.size = 11 ∨ s.size = 12 ∨ s.size = 13
      · rw [if_pos (decide_eq_true (by simp; omega)), if_pos hl, digits_eq s (by omega) k (by omega)]
        simp only [Option.bind_some]
        by_cases hd : (bytesOf s).all digitI = true
        · rw [if_pos hd, if_pos hd]
          have := digit_l0 s (by omega) hd s.size 0 k 0 (by omega) (by omega) (by omega) (by omega)
          unfold chkL
          simp only [List.drop_zero, Int.zero_add] at this
          exact this
        · rw [if_neg hd, if_neg hd]
      · rw [if_neg (by simp; omega), if_neg hl]
theorem bytesOf_extract0 (s : ByteArray) (n : Nat) : bytesOf (s.extract 0 n) = (bytesOf s).take n := by
  unfold bytesOf
  rw [ByteArray.data_extract, Array.toList_extract, List.extract_eq_take_drop]
  simp
theorem gtin_eq (s : ByteArray) (k : Nat) (hk : 20 < k) : goods_Gtin.f k s = some (gtinL (bytesOf s)) := by
  unfold goods_Gtin.f gtinL
  by_cases h0 : bytesOf s = []
  · rw [if_pos ((bytesOf_nil s).2 h0), if_pos h0]
  · rw [if_neg (fun h => h0 ((bytesOf_nil s).1 h)), if_neg h0, bytesOf_length]
    by_cases h14 : 14 < s.size
    · rw [if_pos (by omega), if_pos h14]
    · rw [if_neg (by omega), if_neg h14, contains_eq _ _ (by simp) k (by simp; omega)]
      simp only [Option.bind_some]
      by_cases hl : s.size = 8 ∨ s.size = 12 ∨ s.size = 13 ∨ s.size = 14
      · rw [if_pos (decide_eq_true (by simp; omega)), if_pos hl, digits_eq s (by omega) k (by omega)]
        simp only [Option.bind_some]
        by_cases hd : (bytesOf s).all digitI = true
        · rw [if_pos hd, if_pos hd]
          have hw : wrap64 ((s.size : Int) - 1) = ((s.size - 1 : Nat) : Int) := by unfold wrap64; omega
          have hdl : (bytesOf s).take (s.size - 1) = (bytesOf s).dropLast := by rw [List.dropLast_eq_take, bytesOf_length]
          have hlast : bt s ((s.size - 1 : Nat) : Int) = (bytesOf s).getLastD 0 := by
            rw [bt_getD, Int.toNat_natCast, List.getLastD_eq_getLast?, List.getLast?_eq_getElem?, bytesOf_length, List.getD_eq_getElem?_getD]
          have hdig : digitL (bytesOf s).dropLast = (chkL (bytesOf s).dropLast, 0) := by
            unfold digitL
            have hlen : (bytesOf s).dropLast.length = s.size - 1 := by rw [List.length_dropLast, bytesOf_length]
            rw [if_neg (by intro e; rw [e] at hlen; simp at hlen; omega), hlen, if_neg (by omega), if_pos (by omega), if_pos]
            rw [List.all_eq_true] at hd ⊢
            exact fun c hc => hd c (List.dropLast_subset _ hc)
          have hb : 48 ≤ (bytesOf s).getLastD 0 ∧ (bytesOf s).getLastD 0 ≤ 57 := by
            have hm : (bytesOf s).getLastD 0 ∈ bytesOf s := by
              rw [List.getLastD_eq_getLast?, List.getLast?_eq_some_getLast h0]; exact List.getLast_mem h0
            rw [List.all_eq_true] at hd
            have := hd _ hm
            unfold digitI at this
            simpa using this
          rw [hw, if_pos (by omega), if_pos (by omega), Int.toNat_natCast, digit_eq _ k hk, bytesOf_extract0 s _, hdl, hdig, hlast]
          simp only [Option.bind_some]
          rw [if_pos (by omega), show ((bytesOf s).getLastD 0 - 48) % 256 = (bytesOf s).getLastD 0 - 48 from by omega]
          split <;> rfl
        · rw [if_neg hd, if_neg hd]
      · rw [if_neg (by simp; omega), if_neg hl]
theorem gtin_len (l : List Int) (h : (gtinL l).2 = 0) : (l.length = 8 ∨ l.length = 12 ∨ l.length = 13 ∨ l.length = 14) ∧ (gtinL l).1 = l.length ∧ l.all digitI = true ∧ chkL l.dropLast = l.getLastD 0 - 48 := by
  unfold gtinL at *
  by_cases h0 : l = []
  · rw [if_pos h0] at h; simp at h
  · rw [if_neg h0] at h ⊢
    by_cases h1 : 14 < l.length
    · rw [if_pos h1] at h; simp at h
    · rw [if_neg h1] at h ⊢
      by_cases h2 : l.length = 8 ∨ l.length = 12 ∨ l.length = 13 ∨ l.length = 14
      · rw [if_pos h2] at h ⊢
        by_cases h3 : l.all digitI = true
        · rw [if_pos h3] at h ⊢
          by_cases h4 : chkL l.dropLast = l.getLastD 0 - 48
          · rw [if_pos h4]; exact ⟨h2, rfl, h3, h4⟩
          · rw [if_neg h4] at h; simp at h
        · rw [if_neg h3] at h; simp at h
      · rw [if_neg h2] at h; simp at h
theorem rep48 (n : Nat) : Lib.repeatL [48] n = List.replicate n 48 := by
  have := Lib.repeatL_replicate 48 1 n
  simpa using this
theorem bytesOf_append (s t : ByteArray) : bytesOf (s ++ t) = bytesOf s ++ bytesOf t := by
  unfold bytesOf
  rw [ByteArray.data_append, Array.toList_append, List.map_append]
theorem widen_eq (s : ByteArray) (k : Nat) (hk : 20 < k) : ∃ r, goods_Widen.f k s = some (r, (widenL (bytesOf s)).2) ∧ bytesOf r = (widenL (bytesOf s)).1 := by
  unfold goods_Widen.f widenL
  rw [gtin_eq s k hk]
  simp only [Option.bind_some]
  by_cases h : (gtinL (bytesOf s)).2 = 0
  · rw [if_pos h, if_pos h]
    obtain ⟨hl, _⟩ := gtin_len _ h
    rw [bytesOf_length] at hl
    have hw : wrap64 (14 - (s.size : Int)) = ((14 - s.size : Nat) : Int) := by unfold wrap64; omega
    have hsz : ((⟨#[48]⟩ : ByteArray)).size = 1 := rfl
    rw [hw]
    unfold strings_Repeat.f
    rw [if_pos ⟨by omega, by omega, by rw [hsz, Int.toNat_natCast]; omega⟩]
    simp only [Option.bind_some, Int.toNat_natCast]
    have hr : Lib.repeatL ((⟨#[48]⟩ : ByteArray)).data.toList (14 - s.size) = List.replicate (14 - s.size) 48 := rep48 _
    rw [hr]
    have hsz2 : ((⟨(List.replicate (14 - s.size) (48 : UInt8)).toArray⟩ : ByteArray)).size = 14 - s.size := by show (List.replicate (14 - s.size) (48 : UInt8)).toArray.size = _; rw [List.size_toArray, List.length_replicate]
    rw [if_pos (by rw [hsz2]; omega)]
    refine ⟨_, rfl, ?_⟩
    rw [bytesOf_append, bytesOf_length]
    congr 1
    unfold bytesOf
    simp
  · rw [if_neg h, if_neg h]
    exact ⟨_, rfl, rfl⟩
end Go.Proofs.YtmicghhmbojkfaaGreatDoor.PA

/- What the reference's Digit, Gtin and Widen answer: what the program's do. -/
namespace Go.Proofs.YtmicghhmbojkfaaGreatDoor.PA
open Go.Proofs.YtmicghhmbojkfaaGreatDoor.G hiding bytesOf_length
open Go.RowKit Go.Proofs.YtmicghhmbojkfaaGreatDoorW.PrintWords Go.Proofs.YtmicghhmbojkfaaGreatDoorW.PrintLast
theorem rdigit1_eq (c : Int) : barrowref02_digit.f c = some (digitI c) := by
  unfold barrowref02_digit.f digitI
  by_cases h : c ≥ 48
  · rw [if_pos h]; simp; omega
  · rw [if_neg h]; simp; omega
theorem rdigits_l0 (s : ByteArray) (hs : s.size ≤ 1000) : ∀ (d i k : Nat), i + d = s.size → d < k → barrowref02_digits.l0 k s i = some (((bytesOf s).drop i).all digitI)
  | 0, i, k, hd, hk => by
    obtain ⟨k, rfl⟩ : ∃ m, k = m + 1 := ⟨k - 1, by omega⟩
    rw [List.drop_eq_nil_of_le (by rw [bytesOf_length]; omega), barrowref02_digits.l0, if_neg (by omega)]; rfl
  | d + 1, i, k, hd, hk => by
    obtain ⟨k, rfl⟩ : ∃ m, k = m + 1 := ⟨k - 1, by omega⟩
    have hw : wrap64 ((i : Int) + 1) = ((i + 1 : Nat) : Int) := by unfold wrap64; omega
    rw [bytesOf_drop s i (by omega), barrowref02_digits.l0, if_pos (by clear hw; omega), if_pos (by clear hw; omega), rdigit1_eq, Option.bind_some, hw, rdigits_l0 s hs d (i + 1) k (by omega) (by omega), List.all_cons]
    by_cases h : digitI (bt s i) = true
    · rw [if_pos h, h, Bool.true_and]
    · rw [if_neg h, show digitI (bt s i) = false from by simpa using h, Bool.false_and]
theorem rdigits_eq (s : ByteArray) (hs : s.size ≤ 1000) (k : Nat) (hk : s.size < k) : barrowref02_digits.f k s = some ((bytesOf s).all digitI) := by
  have := rdigits_l0 s hs s.size 0 k (by omega) hk
  rw [List.drop_zero] at this
  exact this
/-- The weighted sum, the first digit first. -/
def fw : List Int → Int
  | [] => 0
  | c :: t => (if t.length % 2 = 0 then 3 else 1) * (c - 48) + fw t
theorem wsum_snoc (a : List Int) (c : Int) : ∀ i, wsum (a ++ [c]) i = wsum a i + (if (i + a.length) % 2 = 0 then 3 else 1) * (c - 48) := by
  induction a with
  | nil => intro i; simp [wsum]
  | cons b t ih => intro i; rw [List.cons_append, wsum, wsum, ih, List.length_cons, show i + 1 + t.length = i + (t.length + 1) from by omega]; omega
theorem fw_eq (l : List Int) : fw l = wsum l.reverse 0 := by
  induction l with
  | nil => rfl
  | cons c t ih => rw [fw, List.reverse_cons, wsum_snoc, ih, List.length_reverse, Nat.zero_add]; omega
theorem check_l1 (x : Int) (h0 : 0 ≤ x) (h1 : x ≤ 10000) : ∀ (d y k : Nat), ((y + d : Nat) : Int) = (10 - x % 10) % 10 → d < k → barrowref02_check.l1 k x y = some ((10 - x % 10) % 10)
  | 0, y, k, hy, hk => by
    obtain ⟨k, rfl⟩ : ∃ m, k = m + 1 := ⟨k - 1, by omega⟩
    have hw : wrap64 (x + y) = x + y := by unfold wrap64; omega
    rw [barrowref02_check.l1, hw, Int.tmod_eq_emod_of_nonneg (by clear hw; omega), if_pos (by clear hw; omega)]
    exact congrArg some (by clear hw; omega)
  | d + 1, y, k, hy, hk => by
    obtain ⟨k, rfl⟩ : ∃ m, k = m + 1 := ⟨k - 1, by omega⟩
    have hw : wrap64 (x + y) = x + y := by unfold wrap64; omega
    have hw2 : wrap64 ((y : Int) + 1) = ((y + 1 : Nat) : Int) := by unfold wrap64; omega
    rw [barrowref02_check.l1, hw, Int.tmod_eq_emod_of_nonneg (by clear hw hw2; omega), if_neg (by clear hw hw2; omega), hw2, check_l1 x h0 h1 d (y + 1) k (by clear hw hw2; omega) (by omega)]
theorem check_l0 (s : ByteArray) (hs : s.size ≤ 13) (hd : (bytesOf s).all digitI = true) : ∀ (d i k : Nat) (x : Int), i + d = s.size → d + 15 < k → 0 ≤ x → x ≤ 27 * i →
    barrowref02_check.l0 k s x i = some ((10 - (x + fw ((bytesOf s).drop i)) % 10) % 10)
  | 0, i, k, x, hi, hk, h0, h1 => by
    obtain ⟨k, rfl⟩ : ∃ m, k = m + 1 := ⟨k - 1, by omega⟩
    rw [List.drop_eq_nil_of_le (by rw [bytesOf_length]; omega), barrowref02_check.l0, if_neg (by omega), fw, Int.add_zero]
    exact check_l1 x h0 (by omega) ((10 - x % 10) % 10).toNat 0 k (by omega) (by omega)
  | d + 1, i, k, x, hi, hk, h0, h1 => by
    obtain ⟨k, rfl⟩ : ∃ m, k = m + 1 := ⟨k - 1, by omega⟩
    have hlt : i < s.size := by omega
    have hw : wrap64 ((i : Int) + 1) = ((i + 1 : Nat) : Int) := by unfold wrap64; omega
    have hw2 : wrap64 (wrap64 ((s.size : Int) - 1) - i) = (d : Int) := by
      have e : wrap64 ((s.size : Int) - 1) = (s.size : Int) - 1 := by unfold wrap64; omega
      rw [e]; unfold wrap64; omega
    have hdr := bytesOf_drop s i hlt
    have hdg : digitI (bt s (i : Int)) = true := by
      rw [List.all_eq_true] at hd
      exact hd _ (List.mem_of_mem_drop (by rw [hdr]; exact List.mem_cons_self))
    have hb : 48 ≤ bt s (i : Int) ∧ bt s (i : Int) ≤ 57 := by unfold digitI at hdg; simpa using hdg
    have hlen : ((bytesOf s).drop (i + 1)).length = d := by rw [List.length_drop, bytesOf_length]; omega
    rw [barrowref02_check.l0, if_pos (by clear hw hw2; omega), if_pos (by clear hw hw2; omega), hw2, hw, hdr, fw, hlen]
    clear hw hw2
    generalize bt s (i : Int) = c at hb
    rw [show (c - 48) % 256 = c - 48 from by omega, Int.tmod_eq_emod_of_nonneg (by omega)]
    by_cases hp : d % 2 = 0
    · have hx : wrap64 (x + 3 * (c - 48)) = x + 3 * (c - 48) := by unfold wrap64; omega
      rw [if_pos (by clear hx; omega), if_pos hp, hx, check_l0 s hs hd d (i + 1) k _ (by omega) (by omega) (by clear hx; omega) (by clear hx; omega), Int.add_assoc]
    · have hx : wrap64 (x + (c - 48)) = x + (c - 48) := by unfold wrap64; omega
      rw [if_neg (by clear hx; omega), if_neg hp, hx, check_l0 s hs hd d (i + 1) k _ (by omega) (by omega) (by clear hx; omega) (by clear hx; omega), Int.one_mul, Int.add_assoc]
theorem check_eq' (s : ByteArray) (hs : s.size ≤ 13) (hd : (bytesOf s).all digitI = true) (k : Nat) (hk : 40 < k) : barrowref02_check.f k s = some (chkL (bytesOf s)) := by
  have := check_l0 s hs hd s.size 0 k 0 (by omega) (by omega) (by omega) (by omega)
  rw [List.drop_zero, Int.zero_add, fw_eq] at this
  exact this
theorem rdigitf_eq (s : ByteArray) (k : Nat) (hk : 60 < k) : barrowref02_Digit.f k s = some (digitL (bytesOf s)) := by
  obtain ⟨k, rfl⟩ : ∃ m, k = m + 1 := ⟨k - 1, by omega⟩
  unfold barrowref02_Digit.f digitL
  by_cases h0 : bytesOf s = []
  · have : s.size = 0 := by rw [← bytesOf_length, h0]; rfl
    rw [if_pos (by omega), if_pos h0]
  · have hz : s.size ≠ 0 := by intro e; exact h0 (List.length_eq_zero_iff.1 (by rw [bytesOf_length]; exact e))
    rw [if_neg (by omega), if_neg h0, bytesOf_length]
    by_cases h13 : 13 < s.size
    · rw [if_pos (by omega), if_pos h13]
    · rw [if_neg (by omega), if_neg h13]
      have hj : ∀ b, barrowref02_Digit.j0 (k + 1) s b = some (if b = true then (0, 2) else if (bytesOf s).all digitI = true then (chkL (bytesOf s), 0) else (0, 22)) := by
        intro b
        rw [barrowref02_Digit.j0, rdigits_eq s (by omega) k (by omega), Option.bind_some]
        cases b with
        | true => rfl
        | false =>
          simp only [Bool.false_eq_true, if_false]
          by_cases hd : (bytesOf s).all digitI = true
          · rw [if_pos hd, if_pos hd, check_eq' s (by omega) hd k (by omega)]; rfl
          · rw [if_neg hd, if_neg hd]
      rw [hj, hj]
      simp only [Bool.false_eq_true, if_false]
      by_cases e7 : s.size = 7
      · rw [if_pos (by omega), if_pos (show s.size = 7 ∨ s.size = 11 ∨ s.size = 12 ∨ s.size = 13 from by omega)]
      · rw [if_neg (by omega)]
        by_cases e11 : s.size = 11
        · rw [if_pos (by omega), if_pos (show s.size = 7 ∨ s.size = 11 ∨ s.size = 12 ∨ s.size = 13 from by omega)]
        · rw [if_neg (by omega)]
          by_cases e12 : s.size = 12
          · rw [if_pos (by omega), if_pos (show s.size = 7 ∨ s.size = 11 ∨ s.size = 12 ∨ s.size = 13 from by omega)]
          · rw [if_neg (by omega)]
            by_cases e13 : s.size = 13
            · rw [show ((s.size : Int) != 13) = false from by simp; omega, if_neg (by decide : ¬ (false = true)), if_pos (show s.size = 7 ∨ s.size = 11 ∨ s.size = 12 ∨ s.size = 13 from by omega)]
            · rw [show ((s.size : Int) != 13) = true from by simp; omega, if_pos rfl, if_neg (show ¬ (s.size = 7 ∨ s.size = 11 ∨ s.size = 12 ∨ s.size = 13) from by omega)]
theorem rgtin_eq (s : ByteArray) (k : Nat) (hk : 60 < k) : barrowref02_Gtin.f k s = some (gtinL (bytesOf s)) := by
  obtain ⟨k, rfl⟩ : ∃ m, k = m + 1 := ⟨k - 1, by omega⟩
  unfold barrowref02_Gtin.f gtinL
  by_cases h0 : bytesOf s = []
  · have : s.size = 0 := by rw [← bytesOf_length, h0]; rfl
    rw [if_pos (by omega), if_pos h0]
  · have hz : s.size ≠ 0 := by intro e; exact h0 (List.length_eq_zero_iff.1 (by rw [bytesOf_length]; exact e))
    rw [if_neg (by omega), if_neg h0, bytesOf_length]
    by_cases h14 : 14 < s.size
    · rw [if_pos (by omega), if_pos h14]
    · rw [if_neg (by omega), if_neg h14]
      have hj : ∀ b, barrowref02_Gtin.j0 (k + 1) s (s.size : Int) b = some (if b = true then (0, 2) else if (bytesOf s).all digitI = true then (if chkL (bytesOf s).dropLast = (bytesOf s).getLastD 0 - 48 then ((s.size : Int), 0) else (0, 23)) else (0, 22)) := by
        intro b
        have hw : wrap64 ((s.size : Int) - 1) = ((s.size - 1 : Nat) : Int) := by unfold wrap64; omega
        rw [barrowref02_Gtin.j0, rdigits_eq s (by clear hw; omega) k (by clear hw; omega), Option.bind_some, hw]
        clear hw
        cases b with
        | true => rfl
        | false =>
          simp only [Bool.false_eq_true, if_false]
          by_cases hd : (bytesOf s).all digitI = true
          · rw [if_pos hd, if_pos hd]
            have hdl : (bytesOf s).take (s.size - 1) = (bytesOf s).dropLast := by rw [List.dropLast_eq_take, bytesOf_length]
            have hlast : bt s ((s.size - 1 : Nat) : Int) = (bytesOf s).getLastD 0 := by
              rw [bt_getD, Int.toNat_natCast, List.getLastD_eq_getLast?, List.getLast?_eq_getElem?, bytesOf_length, List.getD_eq_getElem?_getD]
            have hb : 48 ≤ (bytesOf s).getLastD 0 ∧ (bytesOf s).getLastD 0 ≤ 57 := by
              have hm : (bytesOf s).getLastD 0 ∈ bytesOf s := by
                rw [List.getLastD_eq_getLast?, List.getLast?_eq_some_getLast h0]; exact List.getLast_mem h0
              rw [List.all_eq_true] at hd
              have := hd _ hm
              unfold digitI at this
              simpa using this
            have hsz : (s.extract 0 (s.size - 1)).size ≤ 13 := by
              have := congrArg List.length (bytesOf_extract0 s (s.size - 1))
              rw [bytesOf_length, List.length_take, bytesOf_length] at this
              omega
            have hda : (bytesOf (s.extract 0 (s.size - 1))).all digitI = true := by
              rw [bytesOf_extract0, hdl]
              rw [List.all_eq_true] at hd ⊢
              exact fun c hc => hd c (List.dropLast_subset _ hc)
            rw [if_pos (by omega), if_pos (by omega), Int.toNat_natCast, check_eq' _ hsz hda k (by omega), Option.bind_some, if_pos (by omega), bytesOf_extract0, hdl, hlast, show ((bytesOf s).getLastD 0 - 48) % 256 = (bytesOf s).getLastD 0 - 48 from by omega]
            split <;> rfl
          · rw [if_neg hd, if_neg hd]
      rw [hj, hj]
      simp only [Bool.false_eq_true, if_false]
      by_cases e7 : s.size = 8
      · rw [if_pos (by omega), if_pos (show s.size = 8 ∨ s.size = 12 ∨ s.size = 13 ∨ s.size = 14 from by omega)]
      · rw [if_neg (by omega)]
        by_cases e11 : s.size = 12
        · rw [if_pos (by omega), if_pos (show s.size = 8 ∨ s.size = 12 ∨ s.size = 13 ∨ s.size = 14 from by omega)]
        · rw [if_neg (by omega)]
          by_cases e12 : s.size = 13
          · rw [if_pos (by omega), if_pos (show s.size = 8 ∨ s.size = 12 ∨ s.size = 13 ∨ s.size = 14 from by omega)]
          · rw [if_neg (by omega)]
            by_cases e13 : s.size = 14
            · rw [show ((s.size : Int) != 14) = false from by simp; omega, if_neg (by decide : ¬ (false = true)), if_pos (show s.size = 8 ∨ s.size = 12 ∨ s.size = 13 ∨ s.size = 14 from by omega)]
            · rw [show ((s.size : Int) != 14) = true from by simp; omega, if_pos rfl, if_neg (show ¬ (s.size = 8 ∨ s.size = 12 ∨ s.size = 13 ∨ s.size = 14) from by omega)]
theorem rwiden_l0 : ∀ (d n k : Nat) (s : ByteArray), n + d = 14 → s.size ≤ 1000 + n → d < k → ∃ r, barrowref02_Widen.l0 k s n = some (r, 0) ∧ bytesOf r = List.replicate d 48 ++ bytesOf s
  | 0, n, k, s, hn, hs, hk => by
    obtain ⟨k, rfl⟩ : ∃ m, k = m + 1 := ⟨k - 1, by omega⟩
    exact ⟨s, by rw [barrowref02_Widen.l0, if_neg (by omega)], by simp⟩
  | d + 1, n, k, s, hn, hs, hk => by
    obtain ⟨k, rfl⟩ : ∃ m, k = m + 1 := ⟨k - 1, by omega⟩
    have hsz : ((⟨#[48]⟩ : ByteArray) ++ s).size = 1 + s.size := by rw [ByteArray.size_append]; rfl
    obtain ⟨r, hr, hb⟩ := rwiden_l0 d (n + 1) k ((⟨#[48]⟩ : ByteArray) ++ s) (by omega) (by omega) (by omega)
    refine ⟨r, ?_, ?_⟩
    · have hw : wrap64 ((n : Int) + 1) = ((n + 1 : Nat) : Int) := by unfold wrap64; omega
      rw [barrowref02_Widen.l0, if_pos (by clear hw; omega), if_pos (by clear hw; omega), hw, hr]
    · rw [hb, bytesOf_append, List.replicate_succ', List.append_assoc]; rfl
theorem rwiden_eq (s : ByteArray) (k : Nat) (hk : 60 < k) : ∃ r, barrowref02_Widen.f k s = some (r, (widenL (bytesOf s)).2) ∧ bytesOf r = (widenL (bytesOf s)).1 := by
  unfold barrowref02_Widen.f widenL
  rw [rgtin_eq s k hk, Option.bind_some]
  by_cases h : (gtinL (bytesOf s)).2 = 0
  · rw [if_pos h, if_pos h]
    obtain ⟨hl, h1, _⟩ := gtin_len _ h
    rw [h1, bytesOf_length] at *
    obtain ⟨r, hr, hb⟩ := rwiden_l0 (14 - s.size) s.size k s (by omega) (by omega) (by omega)
    exact ⟨r, hr, hb⟩
  · rw [if_neg h, if_neg h]
    exact ⟨_, rfl, rfl⟩
end Go.Proofs.YtmicghhmbojkfaaGreatDoor.PA
