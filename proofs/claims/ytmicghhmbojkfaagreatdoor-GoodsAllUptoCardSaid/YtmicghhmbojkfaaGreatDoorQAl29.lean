import Derived.Test.YtmicghhmbojkfaaGreatDoorQAl12
import Derived.Test.YtmicghhmbojkfaaGreatDoorQAl27
import Derived.Test.YtmicghhmbojkfaaGreatDoorQAl13
import Derived.Test.YtmicghhmbojkfaaGreatDoorQAl25
import Derived.Laws.Bits128
/- What the reference's ParseQty, PrintQty and Total answer: what the program's do (Total: where the list is short enough for its sum to be a number). -/
namespace Go.Proofs.YtmicghhmbojkfaaGreatDoor.PQ
open Go.RowKit Go.Proofs.YtmicghhmbojkfaaGreatDoor.G Go.Proofs.YtmicghhmbojkfaaGreatDoor.Ord Go.Proofs.YtmicghhmbojkfaaGreatDoorW.PrintWords Go.Proofs.YtmicghhmbojkfaaGreatDoorW.PrintLast
theorem drop_bytes (s : ByteArray) (i : Nat) (h : i < s.size) : (bytesOf s).drop i = bt s i :: (bytesOf s).drop (i + 1) := by
  rw [List.drop_eq_getElem_cons (by rw [bytesOf_length]; exact h), btD_getD, List.getD_eq_getElem?_getD, List.getElem?_eq_getElem (by rw [bytesOf_length]; simpa using h)]
  simp
theorem rdigit1_eq (c : Int) : barrowref02_digit.f c = some (dig c) := by
  unfold barrowref02_digit.f dig
  by_cases h : c ≥ 48
  · rw [if_pos h]; simp; omega
  · rw [if_neg h]; simp; omega
theorem rdigits_l0 (s : ByteArray) (hs : s.size ≤ 1000) : ∀ (d i k : Nat), i + d = s.size → d < k → barrowref02_digits.l0 k s i = some (((bytesOf s).drop i).all dig)
  | 0, i, k, hd, hk => by
    obtain ⟨k, rfl⟩ : ∃ m, k = m + 1 := ⟨k - 1, by omega⟩
    rw [List.drop_eq_nil_of_le (by rw [bytesOf_length]; omega), barrowref02_digits.l0, if_neg (by omega)]; rfl
  | d + 1, i, k, hd, hk => by
    obtain ⟨k, rfl⟩ : ∃ m, k = m + 1 := ⟨k - 1, by omega⟩
    have hw : wrap64 ((i : Int) + 1) = ((i + 1 : Nat) : Int) := by unfold wrap64; omega
    rw [drop_bytes s i (by omega), barrowref02_digits.l0, if_pos (by clear hw; omega), if_pos (by clear hw; omega), rdigit1_eq, Option.bind_some, hw, rdigits_l0 s hs d (i + 1) k (by omega) (by omega), List.all_cons]
    by_cases h : dig (bt s i) = true
    · rw [if_pos h, h, Bool.true_and]
    · rw [if_neg h, show dig (bt s i) = false from by simpa using h, Bool.false_and]
theorem rdigits_eq (s : ByteArray) (hs : s.size ≤ 1000) (k : Nat) (hk : s.size < k) : barrowref02_digits.f k s = some ((bytesOf s).all dig) := by
  have := rdigits_l0 s hs s.size 0 k (by omega) hk
  rw [List.drop_zero] at this
  exact this
theorem rparse_l0 (s : ByteArray) (hs : s.size ≤ 1000) (hdg : (bytesOf s).all dig = true) : ∀ (d i k : Nat) (x : Int) (P : Nat), i + d = s.size → d < k → 0 ≤ x → x + 1 ≤ (P : Int) → P * 10 ^ d ≤ 100000000 →
    barrowref02_ParseQty.l0 k s x i = some (if valFrom x ((bytesOf s).drop i) < 1 ∨ 1000000 < valFrom x ((bytesOf s).drop i) then (0, 6) else (valFrom x ((bytesOf s).drop i), 0))
  | 0, i, k, x, P, hi, hk, h0, h1, hP => by
    obtain ⟨k, rfl⟩ : ∃ m, k = m + 1 := ⟨k - 1, by omega⟩
    rw [List.drop_eq_nil_of_le (by rw [bytesOf_length]; omega), barrowref02_ParseQty.l0, if_neg (by omega), valFrom]
    by_cases a : x < 1
    · rw [if_pos a, if_pos (.inl a)]
    · rw [if_neg a]
      by_cases b : x > 1000000
      · rw [if_pos b, if_pos (.inr b)]
      · rw [if_neg b, if_neg (by omega)]
  | d + 1, i, k, x, P, hi, hk, h0, h1, hP => by
    obtain ⟨k, rfl⟩ : ∃ m, k = m + 1 := ⟨k - 1, by omega⟩
    have hdr := drop_bytes s i (by omega)
    have hb : 48 ≤ bt s (i : Int) ∧ bt s (i : Int) ≤ 57 := by
      rw [List.all_eq_true] at hdg
      exact dig_iff.1 (hdg _ (List.mem_of_mem_drop (by rw [hdr]; exact List.mem_cons_self)))
    have hw : wrap64 ((i : Int) + 1) = ((i + 1 : Nat) : Int) := by unfold wrap64; omega
    rw [barrowref02_ParseQty.l0, if_pos (by clear hw; omega), if_pos (by clear hw; omega), hw, hdr, valFrom]
    clear hw hdr
    generalize bt s (i : Int) = c at hb
    have hpp : (P * 10) * 10 ^ d ≤ 100000000 := by rw [Nat.mul_assoc, Nat.mul_comm 10, ← Nat.pow_succ]; exact hP
    have hle : P * 10 ≤ (P * 10) * 10 ^ d := Nat.le_mul_of_pos_right _ (Nat.pow_pos (by decide))
    have hb1 : x ≤ 10000000 := by omega
    have e1 : wrap64 (10 * x) = x * 10 := by unfold wrap64; omega
    have e2 : wrap64 (x * 10 + (c - 48)) = x * 10 + (c - 48) := by unfold wrap64; omega
    rw [show (c - 48) % 256 = c - 48 from by omega, e1, e2]
    clear e1 e2
    exact rparse_l0 s hs hdg d (i + 1) k (x * 10 + (c - 48)) (P * 10) (by omega) (by omega) (by omega) (by omega) hpp
theorem rparse_eq (s : ByteArray) (k : Nat) (hk : 100 < k) : barrowref02_ParseQty.f k s = some (qtyL (bytesOf s)) := by
  obtain ⟨k, rfl⟩ : ∃ m, k = m + 1 := ⟨k - 1, by omega⟩
  unfold barrowref02_ParseQty.f qtyL
  by_cases h0 : bytesOf s = []
  · have : s.size = 0 := by rw [← bytesOf_length, h0]; rfl
    rw [if_pos (by omega), if_pos h0]
  · have hz : s.size ≠ 0 := by intro e; exact h0 (List.length_eq_zero_iff.1 (by rw [bytesOf_length]; exact e))
    rw [if_neg (by omega), if_neg h0, bytesOf_length]
    by_cases h7 : 7 < s.size
    · rw [if_pos (by omega), if_pos h7]
    · have hhd : bt s 0 = (bytesOf s).headD 0 := by
        have := drop_bytes s 0 (by omega)
        rw [List.drop_zero] at this
        rw [this]; rfl
      rw [if_neg (by omega), if_neg h7, rdigits_eq s (by omega) _ (by omega), Option.bind_some]
      by_cases hd : (bytesOf s).all dig = true
      · have hl := rparse_l0 s (by omega) hd s.size 0 k 0 1 (by omega) (by omega) (by omega) (by omega) (by
          rw [Nat.one_mul]; exact Nat.le_trans (Nat.pow_le_pow_right (by decide) (show s.size ≤ 7 by omega)) (by decide))
        rw [List.drop_zero] at hl
        have hl' : barrowref02_ParseQty.l0 k s 0 0 = some (if val (bytesOf s) < 1 ∨ 1000000 < val (bytesOf s) then (0, 6) else (val (bytesOf s), 0)) := hl
        rw [if_pos hd, if_pos (by omega), hhd]
        by_cases h48 : (bytesOf s).headD 0 = 48
        · rw [if_pos h48]
          by_cases h1 : 1 < s.size
          · rw [show decide ((s.size : Int) > 1) = true from by simp; omega, barrowref02_ParseQty.j0, if_pos rfl, if_pos (.inr ⟨h48, h1⟩)]
          · rw [show decide ((s.size : Int) > 1) = false from by simp; omega, barrowref02_ParseQty.j0, if_neg (by decide), hl', if_neg (show ¬ ((bytesOf s).all dig = false ∨ (bytesOf s).headD 0 = 48 ∧ 1 < s.size) from by rw [hd]; simp; omega)]
        · rw [if_neg h48, barrowref02_ParseQty.j0, if_neg (by decide), hl', if_neg (show ¬ ((bytesOf s).all dig = false ∨ (bytesOf s).headD 0 = 48 ∧ 1 < s.size) from by rw [hd]; rintro (h | h); cases h; exact h48 h.1)]
      · rw [if_neg hd, barrowref02_ParseQty.j0, if_pos rfl, if_pos (.inl (by simpa using hd))]
/-- A number's digits, none for 0. -/
def sdig (n : Nat) : List Int := if n = 0 then [] else sdig (n / 10) ++ [48 + ((n % 10 : Nat) : Int)]
  termination_by n
  decreasing_by omega
theorem sdig_zero : sdig 0 = [] := by rw [sdig, if_pos rfl]
theorem sdig_pos {n : Nat} (h : 0 < n) : sdig n = sdig (n / 10) ++ [48 + ((n % 10 : Nat) : Int)] := by rw [sdig, if_neg (by omega)]
/-- A number in decimal. -/
def digs (n : Nat) : List Int := if n = 0 then [48] else sdig n
theorem decDigits_digs (n : Nat) : ((Lib.decDigits n).map fun c => (c.toNat : Int)) = digs n := by
  induction n using Nat.strongRecOn with
  | _ n ih =>
    rw [Lib.decDigits]
    by_cases h : n < 10
    · rw [dif_pos h]
      unfold digs
      have hb : ((UInt8.ofNat (48 + n)).toNat : Int) = 48 + (n : Int) := by rw [UInt8.toNat_ofNat']; omega
      by_cases h0 : n = 0
      · rw [if_pos h0]; subst h0; rfl
      · rw [if_neg h0, sdig_pos (by omega), show n / 10 = 0 from by omega, sdig_zero, show n % 10 = n from by omega, List.map_singleton, hb]; rfl
    · rw [dif_neg h, List.map_append, ih (n / 10) (by omega), List.map_singleton]
      have hb : ((UInt8.ofNat (48 + n % 10)).toNat : Int) = 48 + ((n % 10 : Nat) : Int) := by rw [UInt8.toNat_ofNat']; omega
      rw [hb]
      unfold digs
      rw [if_neg (by omega), if_neg (by omega), sdig_pos (n := n) (by omega)]
theorem itoa_eq (n : Nat) (h : n ≤ 9223372036854775807) : ∃ r, strconv_Itoa.f (n : Int) = some r ∧ bytesOf r = digs n := by
  refine ⟨_, by unfold strconv_Itoa.f; rw [if_pos ⟨by omega, by omega⟩], ?_⟩
  unfold bytesOf Lib.itoa
  rw [if_neg (by omega), Int.toNat_natCast]
  exact decDigits_digs n
theorem bytes_inj {s t : ByteArray} (h : bytesOf s = bytesOf t) : s = t := by
  have : s.data.toList = t.data.toList := by
    unfold bytesOf at h
    have inj : ∀ (a b : List UInt8), (a.map fun c => (c.toNat : Int)) = (b.map fun c => (c.toNat : Int)) → a = b := by
      intro a
      induction a with
      | nil => intro b h; cases b with
        | nil => rfl
        | cons y u => simp at h
      | cons x t ih => intro b h; cases b with
        | nil => simp at h
        | cons y u =>
          simp only [List.map_cons, List.cons.injEq] at h
          have hx : x = y := UInt8.toNat_inj.1 (by omega)
          rw [hx, ih u h.2]
    exact inj _ _ h
  cases s; cases t
  simp only [ByteArray.mk.injEq]
  exact Array.toList_inj.1 this
theorem bytes_append (s t : ByteArray) : bytesOf (s ++ t) = bytesOf s ++ bytesOf t := by
  unfold bytesOf
  rw [ByteArray.data_append, Array.toList_append, List.map_append]
theorem rprint_l0 : ∀ (d n k : Nat) (s : ByteArray), n < 10 ^ d → n ≤ 1000000 → d < k → s.size ≤ 1000 →  s.size + d ≤ 1000 → ∃ r, barrowref02_PrintQty.l0 k n s = some (r, 0) ∧ bytesOf r = sdig n ++ bytesOf s
  | 0, n, k, s, hn, hm, hk, _, hs => by
    obtain ⟨k, rfl⟩ : ∃ m, k = m + 1 := ⟨k - 1, by omega⟩
    obtain rfl : n = 0 := by simpa using hn
    exact ⟨s, by rw [barrowref02_PrintQty.l0, if_neg (by omega)], by rw [sdig_zero]; rfl⟩
  | d + 1, n, k, s, hn, hm, hk, _, hs => by
    obtain ⟨k, rfl⟩ : ∃ m, k = m + 1 := ⟨k - 1, by omega⟩
    by_cases h0 : n = 0
    · subst h0
      exact ⟨s, by rw [barrowref02_PrintQty.l0, if_neg (by omega)], by rw [sdig_zero]; rfl⟩
    · have e1 : (wrap64 (48 + Int.tmod (n : Int) 10)) % 256 = 48 + ((n % 10 : Nat) : Int) := by
        rw [Int.tmod_eq_emod_of_nonneg (by omega)]; unfold wrap64; omega
      have e2 : wrap64 (Int.tdiv (n : Int) 10) = ((n / 10 : Nat) : Int) := by
        rw [Int.tdiv_eq_ediv_of_nonneg (by omega)]; unfold wrap64; omega
      have hb : bytesOf (strOfNums [48 + ((n % 10 : Nat) : Int)]) = [48 + ((n % 10 : Nat) : Int)] := by
        clear e1 e2
        unfold bytesOf strOfNums
        simp only [List.map_cons, List.map_nil]
        rw [UInt8.toNat_ofNat']
        congr 1
        omega
      have hsz : (strOfNums [48 + ((n % 10 : Nat) : Int)]).size = 1 := rfl
      obtain ⟨r, hr, hbr⟩ := rprint_l0 d (n / 10) k (strOfNums [48 + ((n % 10 : Nat) : Int)] ++ s) (by rw [Nat.pow_succ] at hn; clear e1 e2; omega) (by clear e1 e2; omega) (by omega) (by rw [ByteArray.size_append, hsz]; omega) (by rw [ByteArray.size_append, hsz]; omega)
      refine ⟨r, ?_, ?_⟩
      · rw [barrowref02_PrintQty.l0, if_pos (by clear e1 e2; omega), e1, e2, Option.bind_some, hsz, if_pos (by clear e1 e2; omega), hr]
      · rw [hbr, bytes_append, hb, sdig_pos (n := n) (by omega), List.append_assoc]
theorem print_same (n : Int) (k : Nat) (hk : 100 < k) : ∃ v, goods_PrintQty.f n = some v ∧ barrowref02_PrintQty.f k n = some v := by
  obtain ⟨k, rfl⟩ : ∃ m, k = m + 1 := ⟨k - 1, by omega⟩
  unfold goods_PrintQty.f barrowref02_PrintQty.f
  by_cases h1 : n < 1
  · exact ⟨_, by rw [if_pos h1], by rw [if_pos h1, barrowref02_PrintQty.j0, if_pos rfl]⟩
  · by_cases h2 : n > 1000000
    · exact ⟨_, by rw [if_neg h1, if_pos h2], by rw [if_neg h1, show decide (n > 1000000) = true from decide_eq_true h2, barrowref02_PrintQty.j0, if_pos rfl]⟩
    · obtain ⟨m, rfl⟩ : ∃ m : Nat, n = m := ⟨n.toNat, by omega⟩
      obtain ⟨r, hr, hb⟩ := itoa_eq m (by omega)
      obtain ⟨r', hr', hb'⟩ := rprint_l0 7 m k ⟨#[]⟩ (by omega) (by omega) (by omega) (by decide) (by decide)
      obtain rfl : r = r' := bytes_inj (by rw [hb, hb']; unfold digs; rw [if_neg (by omega)]; exact (List.append_nil _).symm)
      exact ⟨(r, 0), by rw [if_neg h1, if_neg h2, hr, Option.bind_some], by rw [if_neg h1, show decide ((m : Int) > 1000000) = false from decide_eq_false h2, barrowref02_PrintQty.j0, if_neg (by decide), hr']⟩
/-- A quantity. -/
def okQ (c : Int) : Bool := decide (1 ≤ c ∧ c ≤ 1000000)
def totL (x : Int) (l : List Int) : Int × Int := if l.all okQ = true then (if 1000000 < x + l.sum then (0, 13) else (x + l.sum, 0)) else (0, 6)
theorem drop_rd (l : List Int) (i : Nat) (h : i < l.length) : l.drop i = rd l i :: l.drop (i + 1) := by
  rw [List.drop_eq_getElem_cons h]
  unfold rd
  rw [Int.toNat_natCast, List.getD_eq_getElem?_getD, List.getElem?_eq_getElem h]; rfl
theorem total_l0 (l : List Int) (hl : l.length ≤ 1048576) : ∀ (d i k : Nat) (x : Int), i + d = l.length → d < k → 0 ≤ x → x ≤ 1000000 * i →
    goods_Total.l0 k x l (l.length : Int) i = some (totL x (l.drop i))
  | 0, i, k, x, hi, hk, h0, h1 => by
    obtain ⟨k, rfl⟩ : ∃ m, k = m + 1 := ⟨k - 1, by omega⟩
    rw [List.drop_eq_nil_of_le (by omega), goods_Total.l0, if_neg (by omega), totL, if_pos (show ([] : List Int).all okQ = true from rfl)]
    show _ = some (if 1000000 < x + 0 then _ else (x + 0, 0))
    rw [Int.add_zero]
    by_cases a : x > 1000000
    · rw [if_pos a, if_pos a]
    · rw [if_neg a, if_neg a]
  | d + 1, i, k, x, hi, hk, h0, h1 => by
    obtain ⟨k, rfl⟩ : ∃ m, k = m + 1 := ⟨k - 1, by omega⟩
    have hw : wrap64 ((i : Int) + 1) = ((i + 1 : Nat) : Int) := by unfold wrap64; omega
    rw [goods_Total.l0, if_pos (by clear hw; omega), if_pos (by clear hw; omega), if_pos (by clear hw; omega), hw, drop_rd l i (by omega), totL, List.all_cons]
    clear hw
    generalize rd l (i : Int) = c
    by_cases a : c < 1
    · rw [if_pos a, show okQ c = false from by unfold okQ; simp; omega]; rfl
    · rw [if_neg a]
      by_cases b : c > 1000000
      · rw [if_pos b, show okQ c = false from by unfold okQ; simp; omega]; rfl
      · have e : wrap64 (x + c) = x + c := by unfold wrap64; omega
        rw [if_neg b, e, total_l0 l hl d (i + 1) k (x + c) (by omega) (by omega) (by clear e; omega) (by clear e; omega), show okQ c = true from by unfold okQ; simp; clear e; omega, Bool.true_and, totL, List.sum_cons, Int.add_assoc]
theorem total_eq (l : List Int) (hl : l.length ≤ 1048576) (k : Nat) (hk : l.length < k) : goods_Total.f k l = some (totL 0 l) :=
  total_l0 l hl l.length 0 k 0 (by omega) hk (by omega) (by omega)
theorem sum_nonneg : ∀ (l : List Int), l.all okQ = true → 0 ≤ l.sum
  | [], _ => by decide
  | c :: t, h => by
    rw [List.all_cons, Bool.and_eq_true] at h
    have := sum_nonneg t h.2
    have h1 := h.1
    unfold okQ at h1
    rw [decide_eq_true_eq] at h1
    rw [List.sum_cons]; omega
theorem rtotal_l1 (l : List Int) (hl : l.length ≤ 1048576) (hok : l.all okQ = true) : ∀ (d i k : Nat) (x : Int), i + d = l.length → d < k → 0 ≤ x → x ≤ 1000000 →
    barrowref02_Total.l1 k l x i = some (if 1000000 < x + (l.drop i).sum then (0, 13) else (x + (l.drop i).sum, 0))
  | 0, i, k, x, hi, hk, h0, h1 => by
    obtain ⟨k, rfl⟩ : ∃ m, k = m + 1 := ⟨k - 1, by omega⟩
    rw [List.drop_eq_nil_of_le (by omega), barrowref02_Total.l1, if_neg (by omega)]
    show _ = some (if 1000000 < x + 0 then _ else (x + 0, 0))
    rw [Int.add_zero, if_neg (by omega)]
  | d + 1, i, k, x, hi, hk, h0, h1 => by
    obtain ⟨k, rfl⟩ : ∃ m, k = m + 1 := ⟨k - 1, by omega⟩
    have hw : wrap64 ((i : Int) + 1) = ((i + 1 : Nat) : Int) := by unfold wrap64; omega
    have hdr := drop_rd l i (by omega)
    have hall := hok
    rw [List.all_eq_true] at hall
    have hc := hall _ (List.mem_of_mem_drop (i := i) (by rw [hdr]; exact List.mem_cons_self))
    have hs : 0 ≤ (l.drop (i + 1)).sum := sum_nonneg _ (List.all_eq_true.2 fun c hc => hall c (List.mem_of_mem_drop hc))
    rw [barrowref02_Total.l1, if_pos (by clear hw; omega), if_pos (by clear hw; omega), hw, hdr, List.sum_cons]
    clear hw hdr
    generalize rd l (i : Int) = c at hc
    unfold okQ at hc
    rw [decide_eq_true_eq] at hc
    have e : wrap64 (x + c) = x + c := by unfold wrap64; omega
    rw [e]
    clear e
    by_cases a : x + c > 1000000
    · rw [if_pos a, if_pos (by omega)]
    · rw [if_neg a, rtotal_l1 l hl hok d (i + 1) k (x + c) (by omega) (by omega) (by omega) (by omega), Int.add_assoc]
theorem rtotal_l0 (l : List Int) (hl : l.length ≤ 1048576) : ∀ (d i k : Nat), i + d = l.length → (∀ c ∈ l.take i, okQ c = true) → d + l.length + 5 < k →
    barrowref02_Total.l0 k l i = some (totL 0 l)
  | 0, i, k, hi, ht, hk => by
    obtain ⟨k, rfl⟩ : ∃ m, k = m + 1 := ⟨k - 1, by omega⟩
    have hok : l.all okQ = true := by
      rw [List.all_eq_true]; rwa [List.take_of_length_le (by omega)] at ht
    have := rtotal_l1 l hl hok l.length 0 k 0 (by omega) (by omega) (by omega) (by omega)
    rw [List.drop_zero] at this
    rw [barrowref02_Total.l0, if_neg (by omega), totL, if_pos hok]
    exact this
  | d + 1, i, k, hi, ht, hk => by
    obtain ⟨k, rfl⟩ : ∃ m, k = m + 1 := ⟨k - 1, by omega⟩
    have hw : wrap64 ((i : Int) + 1) = ((i + 1 : Nat) : Int) := by unfold wrap64; omega
    have hdr := drop_rd l i (by omega)
    have hmem : rd l (i : Int) ∈ l := List.mem_of_mem_drop (i := i) (by rw [hdr]; exact List.mem_cons_self)
    have htk : l.take (i + 1) = l.take i ++ [rd l (i : Int)] := by
      have e := congrArg (List.take 1) hdr
      rw [List.take_add, e]; rfl
    rw [barrowref02_Total.l0, if_pos (by clear hw; omega), if_pos (by clear hw; omega), hw]
    clear hw
    have no : okQ (rd l (i : Int)) = false → totL 0 l = (0, 6) := by
      intro h
      rw [totL, if_neg]
      intro ha
      rw [List.all_eq_true] at ha
      rw [ha _ hmem] at h; cases h
    by_cases a : rd l (i : Int) < 1
    · rw [if_pos a, no (by unfold okQ; simp; omega)]
    · rw [if_neg a]
      by_cases b : rd l (i : Int) > 1000000
      · rw [if_pos b, no (by unfold okQ; simp; omega)]
      · rw [if_neg b]
        refine rtotal_l0 l hl d (i + 1) k (by omega) (fun c hc => ?_) (by omega)
        rw [htk, List.mem_append, List.mem_singleton] at hc
        rcases hc with hc | rfl
        · exact ht c hc
        · unfold okQ; simp; omega
theorem rtotal_eq (l : List Int) (hl : l.length ≤ 1048576) (k : Nat) (hk : 2 * l.length + 5 < k) : barrowref02_Total.f k l = some (totL 0 l) :=
  rtotal_l0 l hl l.length 0 k (by omega) (fun c hc => by simp at hc) (by omega)
end Go.Proofs.YtmicghhmbojkfaaGreatDoor.PQ
