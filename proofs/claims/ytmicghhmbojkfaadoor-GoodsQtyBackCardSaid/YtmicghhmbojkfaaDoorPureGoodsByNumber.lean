/- GoodsByNumber: texts that are alike but for a number stand in the order of the numbers, whatever 0s stand in front. For every head, tail and numbers; no condition. -/
import Derived.Test.YtmicghhmbojkfaaDoorGx8
import Derived.Test.YtmicghhmbojkfaaDoorPureGoodsOrderTotal
import Derived.Laws.Bits128
import Derived.OpenShut
namespace Go.Proofs.YtmicghhmbojkfaaDoor.Pure
open Go.RowKit Go.Proofs.YtmicghhmbojkfaaDoor.G Go.Proofs.YtmicghhmbojkfaaDoor.Ord Go.Proofs.YtmicghhmbojkfaaDoorW.PrintWords Go.Proofs.YtmicghhmbojkfaaDoorW.PrintLast
/-- A number's digits, none for 0. -/
def sdig (n : Nat) : List Int := if n = 0 then [] else sdig (n / 10) ++ [48 + ((n % 10 : Nat) : Int)]
  termination_by n
  decreasing_by omega
theorem sdig_zero : sdig 0 = [] := by rw [sdig, if_pos rfl]
theorem sdig_pos {n : Nat} (h : 0 < n) : sdig n = sdig (n / 10) ++ [48 + ((n % 10 : Nat) : Int)] := by rw [sdig, if_neg (by omega)]
theorem sdig_dig (n : Nat) : ∀ c ∈ sdig n, 48 ≤ c ∧ c ≤ 57 := by
  induction n using Nat.strongRecOn with
  | _ n ih =>
    by_cases h : n = 0
    · subst h; rw [sdig_zero]; simp
    · rw [sdig_pos (by omega)]
      intro c hc
      rcases List.mem_append.1 hc with hc | hc
      · exact ih _ (by omega) c hc
      · simp at hc; omega
theorem sdig_head (n : Nat) : ∀ c t, sdig n = c :: t → c ≠ 48 := by
  induction n using Nat.strongRecOn with
  | _ n ih =>
    intro c t h
    by_cases h0 : n = 0
    · subst h0; rw [sdig_zero] at h; cases h
    · rw [sdig_pos (by omega)] at h
      by_cases h1 : n / 10 = 0
      · rw [h1, sdig_zero] at h
        injection h with h _
        omega
      · cases hs : sdig (n / 10) with
        | nil => rw [sdig_pos (by omega)] at hs; simp at hs
        | cons d u =>
          rw [hs] at h
          injection h with h _
          rw [← h]
          exact ih _ (by omega) d u hs
theorem strip_sdig (n : Nat) : strip (sdig n) = sdig n := by
  cases h : sdig n with
  | nil => rfl
  | cons c t =>
    have := sdig_head n c t h
    unfold strip
    rw [List.dropWhile_cons_of_neg (by simpa using this)]
theorem strip_zeros : ∀ (m : Nat) (l : List Int), strip (List.replicate m 48 ++ l) = strip l
  | 0, _ => rfl
  | m + 1, l => by
    rw [List.replicate_succ, List.cons_append]
    unfold strip
    rw [List.dropWhile_cons_of_pos (by simp)]
    exact strip_zeros m l
/-- A number in decimal. -/
def digs (n : Nat) : List Int := if n = 0 then [48] else sdig n
theorem strip_digs (n : Nat) : strip (digs n) = sdig n := by
  unfold digs
  by_cases h : n = 0
  · rw [if_pos h]; subst h; rw [sdig_zero]; rfl
  · rw [if_neg h, strip_sdig]
theorem digs_dig (n : Nat) : ∀ c ∈ digs n, 48 ≤ c ∧ c ≤ 57 := by
  unfold digs
  by_cases h : n = 0
  · rw [if_pos h]; intro c hc; simp at hc; omega
  · rw [if_neg h]; exact sdig_dig n
theorem digs_ne (n : Nat) : digs n ≠ [] := by
  unfold digs
  by_cases h : n = 0
  · rw [if_pos h]; simp
  · rw [if_neg h, sdig_pos (by omega)]; simp
theorem cmpN_snoc (x y : List Int) (c d : Int) : cmpN (x ++ [c]) (y ++ [d]) = if cmpN x y = 0 then cmpL [c] [d] else cmpN x y := by
  unfold cmpN
  rw [List.length_append, List.length_append, List.length_singleton, List.length_singleton]
  by_cases h1 : x.length < y.length
  · rw [if_pos (by omega), if_pos h1]; rfl
  · rw [if_neg (by omega), if_neg h1]
    by_cases h2 : y.length < x.length
    · rw [if_pos (by omega), if_pos h2]; rfl
    · rw [if_neg (by omega), if_neg h2, cmpL_append_same (by omega)]
theorem cmpN_self (x : List Int) : cmpN x x = 0 := by
  unfold cmpN
  rw [if_neg (by omega), if_neg (by omega)]; exact cmpL_zero.2 rfl
theorem cmpN_sdig (m : Nat) : ∀ n, n < m → cmpN (sdig n) (sdig m) = -1 := by
  induction m using Nat.strongRecOn with
  | _ m ih =>
    intro n h
    rw [sdig_pos (n := m) (by omega)]
    by_cases h0 : n = 0
    · subst h0
      rw [sdig_zero]
      unfold cmpN
      rw [if_pos (by simp)]
    · rw [sdig_pos (n := n) (by omega), cmpN_snoc]
      by_cases hq : n / 10 = m / 10
      · rw [hq, cmpN_self, if_pos rfl, cmpL_cons, if_pos (by omega)]
      · rw [ih (m / 10) (by omega) (n / 10) (by omega), if_neg (by omega)]

/-- A text that doesn't end with a digit. -/
def noEnd (s : List Int) : Prop := s = [] ∨ dig (s.getLastD 0) = false
def noHead (s : List Int) : Prop := s = [] ∨ dig (s.headD 0) = false
theorem key_append (n : Nat) : ∀ s t : List Int, s.length ≤ n → noEnd s → key (s ++ t) = key s ++ key t := by
  induction n with
  | zero =>
    intro s t hl _
    have : s = [] := List.eq_nil_of_length_eq_zero (by omega)
    subst this
    rw [key_nil]; rfl
  | succ n ih =>
    intro s t hl he
    cases s with
    | nil => rw [key_nil]; rfl
    | cons c s =>
      simp only [List.cons_append]
      have he' : s = [] → dig c = false := by
        intro e
        subst e
        rcases he with h | h
        · cases h
        · simpa using h
      have hs : noEnd s := by
        rcases he with h | h
        · cases h
        · cases s with
          | nil => exact .inl rfl
          | cons d u => exact .inr (by simpa using h)
      by_cases hc : dig c = true
      · -- a run of digits that ends within s
        have hne : s ≠ [] := fun e => by rw [he' e] at hc; cases hc
        have hex : ∃ x ∈ s, dig x = false := by
          rcases hs with h | h
          · exact absurd h hne
          · exact ⟨_, by rw [List.getLastD_eq_getLast?, List.getLast?_eq_some_getLast hne]; exact List.getLast_mem hne, h⟩
        obtain ⟨x, hx, hxd⟩ := hex
        have hall : ¬ s.all dig = true := by
          rw [List.all_eq_true]; intro h; rw [h x hx] at hxd; cases hxd
        have htw : (s ++ t).takeWhile dig = s.takeWhile dig := by
          rw [List.takeWhile_append, if_neg]
          intro h
          apply hall
          rw [List.all_eq_true]
          intro y hy
          have e := List.takeWhile_append_dropWhile (p := dig) (l := s)
          have hd0 : (s.dropWhile dig) = [] := by
            have := congrArg List.length e
            rw [List.length_append] at this
            exact List.eq_nil_of_length_eq_zero (by omega)
          rw [hd0, List.append_nil] at e
          rw [← e] at hy
          exact List.all_eq_true.1 List.all_takeWhile y hy
        have hdw : (s ++ t).dropWhile dig = s.dropWhile dig ++ t := by
          rw [List.dropWhile_append, if_neg]
          intro h
          apply hall
          rw [List.all_eq_true]
          intro y hy
          have e := List.takeWhile_append_dropWhile (p := dig) (l := s)
          rw [List.isEmpty_iff.1 h, List.append_nil] at e
          rw [← e] at hy
          exact List.all_eq_true.1 List.all_takeWhile y hy
        have hnd : noEnd (s.dropWhile dig) := by
          rcases hs with h | h
          · exact absurd h hne
          · by_cases hd0 : s.dropWhile dig = []
            · exact .inl hd0
            · right
              have e := List.takeWhile_append_dropWhile (p := dig) (l := s)
              rw [← e] at h
              rw [List.getLastD_eq_getLast?, List.getLast?_append, List.getLast?_eq_some_getLast hd0] at h
              rw [List.getLastD_eq_getLast?, List.getLast?_eq_some_getLast hd0]
              simpa using h
        rw [key_dig hc, key_dig hc, htw, hdw, ih _ t (by have := (List.dropWhile_sublist dig (l := s)).length_le; simp at hl; omega) hnd]
        simp [List.append_assoc]
      · have hc' : dig c = false := by simpa using hc
        rw [key_other hc', key_other hc', ih s t (by simp at hl; omega) hs]; rfl
theorem key_digits (d t : List Int) (hd : ∀ c ∈ d, 48 ≤ c ∧ c ≤ 57) (hne : d ≠ []) (ht : noHead t) : key (d ++ t) = 48 :: ((strip d).length : Int) :: (strip d ++ key t) := by
  cases d with
  | nil => exact absurd rfl hne
  | cons c d =>
    have hc : dig c = true := dig_iff.2 (hd c (by simp))
    have hall : ∀ x ∈ d, dig x = true := fun x hx => dig_iff.2 (hd x (by simp [hx]))
    have ht1 : t.takeWhile dig = [] ∧ t.dropWhile dig = t := by
      cases t with
      | nil => exact ⟨rfl, rfl⟩
      | cons x u =>
        have hx : dig x = false := by
          rcases ht with h | h
          · cases h
          · simpa using h
        exact ⟨List.takeWhile_cons_of_neg (by simp [hx]), List.dropWhile_cons_of_neg (by simp [hx])⟩
    have htw : (d ++ t).takeWhile dig = d := by rw [List.takeWhile_append_of_pos hall, ht1.1, List.append_nil]
    have hdw : (d ++ t).dropWhile dig = t := by rw [List.dropWhile_append_of_pos hall, ht1.2]
    rw [List.cons_append, key_dig hc, htw, hdw]
/-- Two texts that are alike but for a number. -/
theorem natural_number (h t : List Int) (hh : noEnd h) (ht : noHead t) (n m j k : Nat) :
    (n < m → natural (h ++ (List.replicate j 48 ++ digs n) ++ t) (h ++ (List.replicate k 48 ++ digs m) ++ t) = -1) ∧
    (m < n → natural (h ++ (List.replicate j 48 ++ digs n) ++ t) (h ++ (List.replicate k 48 ++ digs m) ++ t) = 1) ∧
    (n = m → (natural (h ++ (List.replicate j 48 ++ digs n) ++ t) (h ++ (List.replicate k 48 ++ digs m) ++ t) = 0 ↔ j = k)) := by
  have hdig : ∀ j n, ∀ c ∈ List.replicate j (48 : Int) ++ digs n, 48 ≤ c ∧ c ≤ 57 := by
    intro j n c hc
    rcases List.mem_append.1 hc with h | h
    · rw [List.eq_of_mem_replicate h]; omega
    · exact digs_dig n c h
  have hkey : ∀ j n, key (h ++ (List.replicate j 48 ++ digs n) ++ t) = key h ++ (48 :: ((sdig n).length : Int) :: (sdig n ++ key t)) := by
    intro j n
    rw [List.append_assoc, key_append h.length h _ (Nat.le_refl _) hh, key_digits _ t (hdig j n) (by simp [digs_ne]) ht, strip_zeros, strip_digs]
  have hlt : ∀ j k n m, n < m → natural (h ++ (List.replicate j 48 ++ digs n) ++ t) (h ++ (List.replicate k 48 ++ digs m) ++ t) = -1 := by
    intro j k n m hnm
    unfold natural cmp2
    simp only
    rw [hkey, hkey, cmpL_prefix, cmpL_number, cmpN_sdig m n hnm, if_neg (by omega), if_neg (by omega)]
  refine ⟨hlt j k n m, fun hnm => ?_, fun hnm => ?_⟩
  · rw [natural_anti (h ++ (List.replicate k 48 ++ digs m) ++ t), hlt k j m n hnm]; rfl
  · subst hnm
    rw [natural_zero]
    constructor
    · intro e
      have e2 := List.append_cancel_left (List.append_cancel_right e)
      have := congrArg List.length (List.append_cancel_right e2)
      simpa using this
    · rintro rfl; rfl

theorem and7 (n : Int) : Go.bits .and .i64 n 7 = n % 8 := by
  have h7 : (BitVec.ofInt 64 7).toNat = 2 ^ 3 - 1 := by decide
  have key : (BitVec.ofInt 64 n &&& BitVec.ofInt 64 7).toNat = (n % ((2 ^ 64 : Nat) : Int)).toNat % 2 ^ 3 := by
    rw [BitVec.toNat_and, BitVec.toNat_ofInt, h7, Nat.and_two_pow_sub_one_eq_mod]
  show IntKind.i64.wrap ((BitVec.ofInt 64 n &&& BitVec.ofInt 64 7).toNat : Nat) = n % 8
  rw [key, IntKind.wrap_i64]
  omega
theorem bytesOf_append (s t : ByteArray) : bytesOf (s ++ t) = bytesOf s ++ bytesOf t := by
  unfold bytesOf
  rw [ByteArray.data_append, Array.toList_append, List.map_append]
theorem bytesOf_str (l : List Int) (h : ∀ c ∈ l, 0 ≤ c ∧ c ≤ 255) : bytesOf (strOfNums l) = l := by
  unfold bytesOf strOfNums
  simp only [List.map_map]
  conv => rhs; rw [← List.map_id l]
  refine List.map_congr_left fun c hc => ?_
  have := h c hc
  simp only [Function.comp, id]
  rw [UInt8.toNat_ofNat']
  omega
theorem decimal_l1 (z : Int) (m : Nat) (hm : Go.bits .and .i64 z 7 = m) : ∀ (d i k : Nat) (s : ByteArray), i + d = m → d < k → s.size + d ≤ 1000 → m ≤ 7 →
    ∃ r, barrowlaw02_decimal.l1 k z s i = some r ∧ bytesOf r = List.replicate d 48 ++ bytesOf s
  | 0, i, k, s, hi, hk, _, _ => by
    obtain ⟨k, rfl⟩ : ∃ q, k = q + 1 := ⟨k - 1, by omega⟩
    refine ⟨s, ?_, rfl⟩
    rw [barrowlaw02_decimal.l1, hm, if_neg (by omega)]
  | d + 1, i, k, s, hi, hk, hs, h7 => by
    obtain ⟨k, rfl⟩ : ∃ q, k = q + 1 := ⟨k - 1, by omega⟩
    have b : bytesOf (⟨#[48]⟩ : ByteArray) = [48] := rfl
    have hz : ((⟨#[48]⟩ : ByteArray) ++ s).size = s.size + 1 := by rw [ByteArray.size_append]; show 1 + _ = _; omega
    obtain ⟨r, hr, hb⟩ := decimal_l1 z m hm d (i + 1) k ((⟨#[48]⟩ : ByteArray) ++ s) (by omega) (by omega) (by omega) h7
    have hw : wrap64 ((i : Int) + 1) = ((i + 1 : Nat) : Int) := by unfold wrap64; omega
    refine ⟨r, ?_, ?_⟩
    · rw [barrowlaw02_decimal.l1, hm, if_pos (by clear hw; omega), if_pos (by clear hw; omega), hw]
      exact hr
    · rw [hb, bytesOf_append, b, List.replicate_succ', List.append_assoc]
theorem decimal_l0 (z : Int) (m : Nat) (hm : Go.bits .and .i64 z 7 = m) (h7 : m ≤ 7) : ∀ (e n k : Nat) (s : ByteArray), n < 10 ^ (e + 1) → n < 4294967296 → e + 12 ≤ k → s.size + e ≤ 100 →
    ∃ r, barrowlaw02_decimal.l0 k n z s = some r ∧ bytesOf r = (List.replicate m 48 ++ digs n) ++ bytesOf s := by
  intro e
  induction e with
  | zero =>
    intro n k s hn h32 hk hs
    obtain ⟨k, rfl⟩ : ∃ q, k = q + 1 := ⟨k - 1, by omega⟩
    have h9 : n ≤ 9 := by have : n < 10 := hn; omega
    have hv : ((48 + (n : Int)) % 4294967296) % 256 = 48 + (n : Int) := by omega
    have hb1 : bytesOf (strOfNums [48 + (n : Int)]) = [48 + (n : Int)] := bytesOf_str _ (by simp; omega)
    have hz : (strOfNums [48 + (n : Int)]).size = 1 := by rw [← bytesOf_length, hb1]; rfl
    have hz2 : (strOfNums [48 + (n : Int)] ++ s).size = s.size + 1 := by rw [ByteArray.size_append, hz]; omega
    obtain ⟨r, hr, hb⟩ := decimal_l1 z m hm m 0 k (strOfNums [48 + (n : Int)] ++ s) (by omega) (by omega) (by omega) h7
    refine ⟨r, ?_, ?_⟩
    · rw [barrowlaw02_decimal.l0, if_neg (by omega), hv, Option.bind_some, if_pos (by omega)]
      exact hr
    · rw [hb, bytesOf_append, hb1, List.append_assoc]
      congr 1
      unfold digs
      by_cases h0 : n = 0
      · rw [if_pos h0]; subst h0; rfl
      · rw [if_neg h0, sdig_pos (by omega), show n / 10 = 0 from by omega, sdig_zero, show n % 10 = n from by omega]; rfl
  | succ e ih =>
    intro n k s hn h32 hk hs
    by_cases h9 : n ≤ 9
    · obtain ⟨r, hr⟩ := ih n k s (by have := Nat.pow_le_pow_right (show 1 ≤ 10 by decide) (show 1 ≤ e + 1 by omega); omega) h32 (by omega) (by omega)
      exact ⟨r, hr⟩
    · obtain ⟨k, rfl⟩ : ∃ q, k = q + 1 := ⟨k - 1, by omega⟩
      have hv : ((48 + Int.tmod (n : Int) 10) % 4294967296) % 256 = 48 + (n % 10 : Nat) := by rw [Int.tmod_eq_emod_of_nonneg (by omega)]; omega
      have hq : (Int.tdiv (n : Int) 10) % 4294967296 = ((n / 10 : Nat) : Int) := by rw [Int.tdiv_eq_ediv_of_nonneg (by omega)]; omega
      have hb1 : bytesOf (strOfNums [48 + ((n % 10 : Nat) : Int)]) = [48 + ((n % 10 : Nat) : Int)] := bytesOf_str _ (by simp; omega)
      have hz : (strOfNums [48 + ((n % 10 : Nat) : Int)]).size = 1 := by rw [← bytesOf_length, hb1]; rfl
      have hz2 : (strOfNums [48 + ((n % 10 : Nat) : Int)] ++ s).size = s.size + 1 := by rw [ByteArray.size_append, hz]; omega
      obtain ⟨r, hr, hb⟩ := ih (n / 10) k (strOfNums [48 + ((n % 10 : Nat) : Int)] ++ s) (by rw [Nat.div_lt_iff_lt_mul (by decide)]; rw [← Nat.pow_succ]; exact hn) (by omega) (by omega) (by omega)
      refine ⟨r, ?_, ?_⟩
      · rw [barrowlaw02_decimal.l0, if_pos (by omega), hv, Option.bind_some, if_pos (by omega), hq]
        exact hr
      · rw [hb, bytesOf_append, hb1]
        have : digs n = digs (n / 10) ++ [48 + ((n % 10 : Nat) : Int)] := by
          unfold digs
          rw [if_neg (by omega), if_neg (by omega), sdig_pos (by omega)]
        rw [this]
        simp [List.append_assoc]
theorem decimal_eq (n : Nat) (hn : n < 4294967296) (z : Int) (k : Nat) (hk : 30 ≤ k) :
    ∃ r, barrowlaw02_decimal.f k n z = some r ∧ bytesOf r = List.replicate (z % 8).toNat 48 ++ digs n := by
  have hm : Go.bits .and .i64 z 7 = ((z % 8).toNat : Int) := by rw [and7]; omega
  obtain ⟨r, hr, hb⟩ := decimal_l0 z _ hm (by omega) 10 n k (⟨#[]⟩ : ByteArray) (by omega) hn (by omega) (by show 0 + 10 ≤ 100; omega)
  refine ⟨r, hr, ?_⟩
  rw [hb]
  simp [bytesOf]
theorem sdig_len (n : Nat) : ∀ e, n < 10 ^ e → (sdig n).length ≤ e := by
  induction n using Nat.strongRecOn with
  | _ n ih =>
    intro e he
    by_cases h : n = 0
    · subst h; rw [sdig_zero]; simp
    · rw [sdig_pos (by omega)]
      cases e with
      | zero => simp at he; omega
      | succ e =>
        have := ih (n / 10) (by omega) e (by rw [Nat.div_lt_iff_lt_mul (by decide)]; rw [← Nat.pow_succ]; exact he)
        simp
        omega
theorem digs_len (n : Nat) (hn : n < 4294967296) : (digs n).length ≤ 10 := by
  unfold digs
  split
  · simp
  · exact sdig_len n 10 (by omega)
theorem digitAt_eq (s : ByteArray) (i : Int) : barrowlaw02_digitAt.f s i = some (decide (0 ≤ i) && decide (i < (s.size : Int)) && dig (bt s i)) := by
  unfold barrowlaw02_digitAt.f dig
  by_cases h0 : i ≥ 0
  · rw [if_pos h0]
    by_cases h1 : i < (s.size : Int)
    · rw [if_pos h1, if_pos h0, decide_eq_true h0, decide_eq_true h1]
      by_cases h2 : bt s i ≥ 48
      · rw [if_pos h2]; simp; omega
      · rw [if_neg h2]; simp; omega
    · rw [if_neg h1, decide_eq_false h1]; simp
  · rw [if_neg h0, decide_eq_false (by omega)]; simp
theorem bynumber_j1 (h t g1 g2 : ByteArray) (n m : Nat) (j k : Int) (hn : n < 4294967296) (hm : m < 4294967296) (wh : h.size ≤ 140737488351232) (wt : t.size ≤ 140737488351232) (hh : noEnd (bytesOf h)) (ht : noHead (bytesOf t)) (K : Nat)
    (hK : 5 * (h.size + t.size) + 1000 ≤ K) : barrowlaw02_GoodsByNumber.j1 (K + 1) h t g1 g2 n m j k = some true := by
  obtain ⟨r, hr, hb⟩ := decimal_eq n hn j K (by omega)
  obtain ⟨q, hq, hqb⟩ := decimal_eq m hm k K (by omega)
  have hz : r.size ≤ 17 := by rw [← bytesOf_length, hb]; have := digs_len n hn; simp; omega
  have hy : q.size ≤ 17 := by rw [← bytesOf_length, hqb]; have := digs_len m hm; simp; omega
  have s1 : (h ++ r).size = h.size + r.size := ByteArray.size_append
  have s2 : (h ++ q).size = h.size + q.size := ByteArray.size_append
  have s3 : (h ++ r ++ t).size = h.size + r.size + t.size := by rw [ByteArray.size_append, s1]
  have s4 : (h ++ q ++ t).size = h.size + q.size + t.size := by rw [ByteArray.size_append, s2]
  rw [barrowlaw02_GoodsByNumber.j1, hr, Option.bind_some, if_pos (by omega), if_pos (by omega), hq, Option.bind_some, if_pos (by omega), if_pos (by omega), compare_eq _ _ (by omega) (by omega) K (by omega), Option.bind_some]
  have e1 : bytesOf (h ++ r ++ t) = bytesOf h ++ (List.replicate (j % 8).toNat 48 ++ digs n) ++ bytesOf t := by rw [bytesOf_append, bytesOf_append, hb]
  have e2 : bytesOf (h ++ q ++ t) = bytesOf h ++ (List.replicate (k % 8).toNat 48 ++ digs m) ++ bytesOf t := by rw [bytesOf_append, bytesOf_append, hqb]
  rw [e1, e2, and7, and7]
  obtain ⟨x1, x2, x3⟩ := natural_number (bytesOf h) (bytesOf t) hh ht n m (j % 8).toNat (k % 8).toNat
  by_cases c1 : n < m
  · rw [if_pos (by omega), x1 c1]; rfl
  · rw [if_neg (by omega)]
    by_cases c2 : m < n
    · rw [if_pos (by omega), x2 c2]; rfl
    · rw [if_neg (by omega)]
      have c3 := x3 (by omega)
      congr 1
      rw [beq_iff_eq, Bool.eq_iff_iff, beq_iff_eq, beq_iff_eq, c3]
      omega
theorem GoodsByNumber (h t : ByteArray) (n m j k : Int) (wh : h.size ≤ 140737488351232) (wt : t.size ≤ 140737488351232) (wn : (Lit.int .u32 n).wf = true) (wm : (Lit.int .u32 m).wf = true) :
    ∃ K, barrowlaw02_GoodsByNumber.f K h t n m j k = some true := by
  have bn := bounds_u32 wn
  have bm := bounds_u32 wm
  obtain ⟨n, rfl⟩ : ∃ q : Nat, n = q := ⟨n.toNat, by omega⟩
  obtain ⟨m, rfl⟩ : ∃ q : Nat, m = q := ⟨m.toNat, by omega⟩
  obtain ⟨K, hK⟩ : ∃ K, 5 * (h.size + t.size) + 2000 ≤ K := ⟨_, Nat.le_refl _⟩
  refine ⟨K + 2, ?_⟩
  have s1 : ((⟨#[65, 50]⟩ : ByteArray)).size = 2 := rfl
  have s2 : ((⟨#[65, 49, 48]⟩ : ByteArray)).size = 3 := rfl
  have b1 : bytesOf (⟨#[65, 50]⟩ : ByteArray) = [65, 50] := rfl
  have b2 : bytesOf (⟨#[65, 49, 48]⟩ : ByteArray) = [65, 49, 48] := rfl
  have n1 : natural [65, 50] [65, 49, 48] = -1 := by decide +kernel
  have fall : barrowlaw02_GoodsByNumber.j0 (K + 2) h t true h t n m j k = some true := by
    rw [barrowlaw02_GoodsByNumber.j0, if_pos rfl]
    have z1 : ((⟨#[65]⟩ : ByteArray)).size = 1 := rfl
    have z2 : ((⟨#[45, 66]⟩ : ByteArray)).size = 2 := rfl
    exact bynumber_j1 _ _ h t n m j k (by omega) (by omega) (by omega) (by omega) (.inr (by decide)) (.inr (by decide)) K (by omega)
  have hlast : ∀ hs : 0 < h.size, bt h ((h.size : Int) - 1) = (bytesOf h).getLastD 0 := by
    intro hs
    rw [bt_getD, List.getLastD_eq_getLast?, List.getLast?_eq_getElem?, bytesOf_length, List.getD_eq_getElem?_getD, show ((h.size : Int) - 1).toNat = h.size - 1 from by omega]
  have hhead : ∀ hs : 0 < t.size, bt t 0 = (bytesOf t).headD 0 := by
    intro hs
    rw [bt_getD, List.headD_eq_head?_getD, List.head?_eq_getElem?, List.getD_eq_getElem?_getD]; rfl
  have hw : wrap64 ((h.size : Int) - 1) = (h.size : Int) - 1 := by unfold wrap64; omega
  unfold barrowlaw02_GoodsByNumber.f
  rw [compare_eq _ _ (by clear hw; omega) (by clear hw; omega) _ (by clear hw; omega), Option.bind_some, b1, b2, n1, if_pos rfl, hw, digitAt_eq, Option.bind_some]
  clear hw
  by_cases c1 : (decide (0 ≤ (h.size : Int) - 1) && decide ((h.size : Int) - 1 < (h.size : Int)) && dig (bt h ((h.size : Int) - 1))) = true
  · rw [if_pos c1]; exact fall
  · rw [if_neg c1, digitAt_eq, Option.bind_some]
    by_cases c2 : (decide (0 ≤ (0 : Int)) && decide ((0 : Int) < (t.size : Int)) && dig (bt t 0)) = true
    · rw [c2]; exact fall
    · have c2' : (decide (0 ≤ (0 : Int)) && decide ((0 : Int) < (t.size : Int)) && dig (bt t 0)) = false := by simpa using c2
      rw [c2', barrowlaw02_GoodsByNumber.j0, if_neg (by decide)]
      refine bynumber_j1 h t h t n m j k (by omega) (by omega) wh wt ?_ ?_ K (by omega)
      · by_cases hs : h.size = 0
        · left; exact List.eq_nil_of_length_eq_zero (by rw [bytesOf_length]; exact hs)
        · right
          rw [← hlast (by omega)]
          rw [decide_eq_true (by omega), decide_eq_true (by omega)] at c1
          simpa using c1
      · by_cases hs : t.size = 0
        · left; exact List.eq_nil_of_length_eq_zero (by rw [bytesOf_length]; exact hs)
        · right
          rw [← hhead (by omega)]
          rw [decide_eq_true (by omega), decide_eq_true (by omega)] at c2
          simpa using c2
end Go.Proofs.YtmicghhmbojkfaaDoor.Pure
