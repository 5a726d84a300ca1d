/- GoodsCheckDigit: behind 7, 11, 12 or 13 digits just one digit makes an article number; one digit changed is told; the wide form is one. For every seed; no condition. -/
import Derived.Test.YtmicghhmbojkfaaGx19
import Derived.Test.YtmicghhmbojkfaaArt
import Derived.OpenShut
namespace Go.Proofs.Ytmicghhmbojkfaa.Pure
open Go.Proofs.Ytmicghhmbojkfaa.G hiding bytesOf_length
open Go.RowKit Go.Proofs.YtmicghhmbojkfaaW.PrintWords Go.Proofs.YtmicghhmbojkfaaW.PrintLast

theorem wsum_append : ∀ (x z : List Int) (i : Nat), wsum (x ++ z) i = wsum x i + wsum z (i + x.length)
  | [], z, i => by simp [wsum]
  | c :: t, z, i => by
    simp only [List.cons_append, wsum]
    rw [wsum_append t z (i + 1), show i + 1 + t.length = i + (c :: t).length from by simp; omega]
    omega
theorem wsum_zeros : ∀ (m i : Nat), wsum (List.replicate m 48) i = 0
  | 0, _ => rfl
  | m + 1, i => by
    rw [List.replicate_succ]
    simp only [wsum]
    rw [wsum_zeros m (i + 1)]
    simp
theorem chk_zeros (m : Nat) (l : List Int) : chkL (List.replicate m 48 ++ l) = chkL l := by
  unfold chkL
  rw [List.reverse_append, List.reverse_replicate, wsum_append, wsum_zeros, Int.add_zero]
theorem chk_range (l : List Int) : 0 ≤ chkL l ∧ chkL l ≤ 9 := by unfold chkL; omega
theorem wsum_mid (a b : List Int) (c : Int) : wsum (a ++ c :: b).reverse 0 = wsum b.reverse 0 + ((if b.length % 2 = 0 then 3 else 1) * (c - 48) + wsum a.reverse (b.length + 1)) := by
  rw [List.reverse_append, List.reverse_cons, List.append_assoc, wsum_append]
  simp only [List.cons_append, List.nil_append, wsum, List.length_reverse, Nat.zero_add]
theorem chk_set (a b : List Int) (c v : Int) (hc : 48 ≤ c ∧ c ≤ 57) (hv : 48 ≤ v ∧ v ≤ 57) (hne : v ≠ c) : chkL (a ++ v :: b) ≠ chkL (a ++ c :: b) := by
  unfold chkL
  rw [wsum_mid, wsum_mid]
  generalize wsum b.reverse 0 = x
  generalize wsum a.reverse (b.length + 1) = y
  split <;> omega
theorem all_dig (l : List Int) : l.all digitI = true ↔ ∀ c ∈ l, 48 ≤ c ∧ c ≤ 57 := by
  rw [List.all_eq_true]
  refine forall_congr' fun c => ?_
  unfold digitI
  simp
theorem gtin_snoc (l : List Int) (c : Int) (hl : l.length = 7 ∨ l.length = 11 ∨ l.length = 12 ∨ l.length = 13) (hd : ∀ c ∈ l, 48 ≤ c ∧ c ≤ 57) (hc : 0 ≤ c ∧ c ≤ 9) :
    gtinL (l ++ [48 + c]) = if chkL l = c then ((l.length : Int) + 1, 0) else (0, 23) := by
  unfold gtinL
  rw [if_neg (by simp), List.length_append, List.length_singleton, if_neg (by omega), if_pos (by omega)]
  rw [if_pos (by
    rw [all_dig]
    intro x hx
    rcases List.mem_append.1 hx with h | h
    · exact hd x h
    · simp at h; omega)]
  rw [List.dropLast_concat, show (l ++ [48 + c]).getLastD 0 - 48 = c from by simp; omega]
  split
  · simp
  · rfl
theorem range_of (l : List Int) (hd : ∀ c ∈ l, 48 ≤ c ∧ c ≤ 57) : ∀ c ∈ l, 0 ≤ c ∧ c ≤ 255 := fun c hc => by have := hd c hc; omega

theorem turned_l0 (n : Nat) (hn : n ≤ 1000) : ∀ (d i k : Nat) (s : Int) (p : List Int), i + d = n → d < k → 0 ≤ s → s < 18446744073709551616 → p.length = i → (∀ c ∈ p, 48 ≤ c ∧ c ≤ 57) →
    ∃ r, barrowlaw02_turned.l0 k s n (p ++ List.replicate d 0) i = some r ∧ r.length = n ∧ ∀ c ∈ r, 48 ≤ c ∧ c ≤ 57
  | 0, i, k, s, p, hd, hk, h0, h1, hp, hc => by
    obtain ⟨k, rfl⟩ : ∃ q, k = q + 1 := ⟨k - 1, by omega⟩
    refine ⟨p, ?_, by omega, hc⟩
    simp only [barrowlaw02_turned.l0]
    rw [if_neg (by omega), List.replicate_zero, List.append_nil]
  | d + 1, i, k, s, p, hd, hk, h0, h1, hp, hc => by
    obtain ⟨k, rfl⟩ : ∃ q, k = q + 1 := ⟨k - 1, by omega⟩
    have hw : wrap64 ((i : Int) + 1) = ((i + 1 : Nat) : Int) := by unfold wrap64; omega
    have hm : Int.tmod s 10 = s % 10 := Int.tmod_eq_emod_of_nonneg h0
    have hu : ∀ x : Int, IntKind.u64.wrap x = x % 18446744073709551616 := fun x => by rfl
    have hv : (IntKind.u64.wrap (48 + Int.tmod s 10)) % 256 = 48 + s % 10 := by rw [hm, hu]; omega
    have hset : (p ++ List.replicate (d + 1) 0).set i (48 + s % 10) = (p ++ [48 + s % 10]) ++ List.replicate d 0 := by
      subst hp
      rw [List.set_append_right _ _ (Nat.le_refl _), Nat.sub_self, List.replicate_succ, List.set_cons_zero, List.append_assoc]; rfl
    obtain ⟨r, hr, h⟩ := turned_l0 n hn d (i + 1) k (IntKind.u64.wrap ((IntKind.u64.wrap (Int.tdiv s 10)) + (IntKind.u64.wrap (7 * (IntKind.u64.wrap (i : Int)))))) (p ++ [48 + s % 10]) (by omega) (by omega)
      (by rw [hu]; omega) (by rw [hu]; omega) (by simp; omega) (by
        intro c hcm
        rcases List.mem_append.1 hcm with h | h
        · exact hc c h
        · simp at h; omega)
    refine ⟨r, ?_, h⟩
    simp only [barrowlaw02_turned.l0]
    rw [if_pos (by omega), if_pos (by omega), if_pos (by simp; omega), hv, Int.toNat_natCast, hset, hw]
    exact hr
theorem turned_eq (n : Nat) (hn : n ≤ 1000) (s : Int) (h0 : 0 ≤ s) (h1 : s < 18446744073709551616) (k : Nat) (hk : n < k) :
    ∃ r, barrowlaw02_turned.f k s n = some r ∧ r.length = n ∧ ∀ c ∈ r, 48 ≤ c ∧ c ≤ 57 := by
  obtain ⟨r, hr, h⟩ := turned_l0 n hn n 0 k s [] (by omega) hk h0 h1 rfl (by simp)
  refine ⟨r, ?_, h⟩
  unfold barrowlaw02_turned.f
  rw [if_pos (by omega), if_pos (by omega), Int.toNat_natCast]
  simpa using hr

theorem size_joined (l : List Int) (hd : ∀ c ∈ l, 48 ≤ c ∧ c ≤ 57) (c : Int) (hc : 0 ≤ c ∧ c ≤ 9) : (strOfNums l).size = l.length ∧ (strOfNums [48 + c]).size = 1 := by
  constructor
  · rw [← bytesOf_length, bytesOf_str _ (range_of l hd)]
  · rw [← bytesOf_length, bytesOf_str _ (by simp; omega)]; rfl

section
variable (l : List Int) (hl : l.length = 7 ∨ l.length = 11 ∨ l.length = 12 ∨ l.length = 13) (hd : ∀ c ∈ l, 48 ≤ c ∧ c ≤ 57)
include hl hd
theorem gtin_joined (c : Int) (hc : 0 ≤ c ∧ c ≤ 9) (k : Nat) (hk : 20 < k) : goods_Gtin.f k (strOfNums l ++ strOfNums [48 + c]) = some (if chkL l = c then ((l.length : Int) + 1, 0) else (0, 23)) := by
  rw [gtin_eq _ k hk, bytesOf_append, bytesOf_str _ (range_of l hd), bytesOf_str _ (by simp; omega), gtin_snoc l c hl hd hc]
theorem check_j4 (x2 : Int) (h0 : 0 ≤ x2) (_h1 : x2 < 18446744073709551616) (w : ByteArray) (hw : bytesOf w = List.replicate (13 - l.length) 48 ++ (l ++ [48 + chkL l])) (k : Nat) (hk : 21 < k) :
    barrowlaw02_GoodsCheckDigit.j4 k x2 l.length l (chkL l) w false = some true := by
  obtain ⟨k, rfl⟩ : ∃ q, k = q + 1 := ⟨k - 1, by omega⟩
  have hr := chk_range l
  simp only [barrowlaw02_GoodsCheckDigit.j4]
  rw [if_neg (by decide), gtin_eq w k (by omega), hw]
  have hg : gtinL (List.replicate (13 - l.length) 48 ++ (l ++ [48 + chkL l])) = (14, 0) := by
    rw [← List.append_assoc]
    have := gtin_snoc (List.replicate (13 - l.length) 48 ++ l) (chkL l) (by simp; omega) (by
      intro c hc
      rcases List.mem_append.1 hc with h | h
      · rw [List.eq_of_mem_replicate h]; omega
      · exact hd c h) hr
    rw [this, chk_zeros, if_pos rfl]
    congr 1
    simp; omega
  rw [hg]
  simp only [Option.bind_some]
  have hu : ∀ x : Int, IntKind.u64.wrap x = x % 18446744073709551616 := fun x => by rfl
  have hn : IntKind.u64.wrap (l.length : Int) = (l.length : Int) := by rw [hu]; omega
  rw [if_pos trivial, if_pos trivial, hn, if_neg (by omega)]
  have hat : Int.tmod x2 (l.length : Int) = x2 % (l.length : Int) := Int.tmod_eq_emod_of_nonneg h0
  have hpos : (0 : Int) < l.length := by omega
  have ha0 := Int.emod_nonneg x2 (show (l.length : Int) ≠ 0 by omega)
  have ha1 := Int.emod_lt_of_pos x2 hpos
  obtain ⟨i, hi⟩ : ∃ i : Nat, x2 % (l.length : Int) = i := ⟨(x2 % (l.length : Int)).toNat, by omega⟩
  rw [hi] at ha0 ha1 hat
  have hil : i < l.length := by omega
  have hwi : wrap64 (i : Int) = i := by unfold wrap64; omega
  have hdv : 0 ≤ Int.tdiv x2 (l.length : Int) := Int.tdiv_nonneg h0 (by omega)
  obtain ⟨st, hst, hst1⟩ : ∃ st : Int, wrap64 (1 + wrap64 (Int.tmod (IntKind.u64.wrap (Int.tdiv x2 (l.length : Int))) 9)) = st ∧ 1 ≤ st ∧ st ≤ 9 := by
    refine ⟨_, rfl, ?_⟩
    have hq : 0 ≤ IntKind.u64.wrap (Int.tdiv x2 (l.length : Int)) := by rw [hu]; omega
    rw [Int.tmod_eq_emod_of_nonneg hq]
    generalize IntKind.u64.wrap (Int.tdiv x2 (l.length : Int)) = q at hq
    have e : wrap64 (q % 9) = q % 9 := by unfold wrap64; omega
    rw [e]
    unfold wrap64
    omega
  have hrd : rd l (i : Int) = l[i] := by unfold rd; rw [List.getD_eq_getElem?_getD, Int.toNat_natCast, List.getElem?_eq_getElem hil]; rfl
  have hci := hd l[i] (List.getElem_mem hil)
  rw [hat, hwi, if_pos (by omega), if_pos (by omega), hst, hrd, Int.toNat_natCast]
  generalize hc : l[i] = c at hci
  have hv : wrap64 (48 + Int.tmod (wrap64 ((c - 48) % 256 + st)) 10) % 256 = 48 + (c - 48 + st) % 10 := by
    have e : wrap64 ((c - 48) % 256 + st) = c - 48 + st := by unfold wrap64; omega
    rw [e, Int.tmod_eq_emod_of_nonneg (by omega)]
    unfold wrap64
    omega
  have hq : wrap64 (48 + chkL l) % 256 = 48 + chkL l := by unfold wrap64; omega
  rw [hv, hq]
  obtain ⟨v, hve⟩ : ∃ v, 48 + (c - 48 + st) % 10 = v := ⟨_, rfl⟩
  rw [hve]
  have hv1 : 48 ≤ v ∧ v ≤ 57 := by omega
  have hv2 : v ≠ c := by omega
  have hset : l.set i v = l.take i ++ v :: l.drop (i + 1) := List.set_eq_take_append_cons_drop .. |>.trans (if_pos hil)
  have hself : l = l.take i ++ c :: l.drop (i + 1) := by rw [← hc, ← List.drop_eq_getElem_cons hil, List.take_append_drop]
  have hlen : (l.set i v).length = l.length := by simp
  have hds : ∀ x ∈ l.set i v, 48 ≤ x ∧ x ≤ 57 := by
    intro x hx
    rcases List.mem_or_eq_of_mem_set hx with h | h
    · exact hd x h
    · omega
  have hneq : chkL (l.set i v) ≠ chkL l := by
    rw [hset]
    conv => rhs; rw [hself]
    exact chk_set _ _ c v hci hv1 hv2
  have hsz := size_joined (l.set i v) hds (chkL l) hr
  rw [if_pos (by rw [hsz.1, hsz.2, hlen]; omega), gtin_joined (l.set i v) (by rw [hlen]; exact hl) hds (chkL l) hr k (by omega), if_neg hneq]
  rfl
theorem check_end (x2 : Int) (h0 : 0 ≤ x2) (h1 : x2 < 18446744073709551616) (k : Nat) (hk : 30 < k) :
    barrowlaw02_GoodsCheckDigit.l0 k x2 l.length l (chkL l) 10 = some true := by
  obtain ⟨k, rfl⟩ : ∃ q, k = q + 1 := ⟨k - 1, by omega⟩
  have hr := chk_range l
  have hq : wrap64 (48 + chkL l) % 256 = 48 + chkL l := by unfold wrap64; omega
  have hsz := size_joined l hd (chkL l) hr
  obtain ⟨w, hw, hwb⟩ := widen_eq (strOfNums l ++ strOfNums [48 + chkL l]) k (by omega)
  have hbs : bytesOf (strOfNums l ++ strOfNums [48 + chkL l]) = l ++ [48 + chkL l] := by rw [bytesOf_append, bytesOf_str _ (range_of l hd), bytesOf_str _ (by simp; omega)]
  have hwl : widenL (l ++ [48 + chkL l]) = (List.replicate (13 - l.length) 48 ++ (l ++ [48 + chkL l]), 0) := by
    unfold widenL
    rw [gtin_snoc l _ hl hd hr, if_pos rfl, if_pos rfl, List.length_append, List.length_singleton, show 14 - (l.length + 1) = 13 - l.length from by omega]
  rw [hbs, hwl] at hw hwb
  simp only [barrowlaw02_GoodsCheckDigit.l0]
  rw [if_neg (by omega), hq]
  simp only [Option.bind_some]
  rw [if_pos (by rw [hsz.1, hsz.2]; omega), hw]
  simp only [Option.bind_some]
  have hws : w.size = 14 := by
    rw [← bytesOf_length, hwb]
    simp
    omega
  have hjs : (strOfNums l ++ strOfNums [48 + chkL l]).size = l.length + 1 := by rw [ByteArray.size_append, hsz.1, hsz.2]
  have hwr : wrap64 (14 - ((strOfNums l ++ strOfNums [48 + chkL l]).size : Int)) = ((13 - l.length : Nat) : Int) := by rw [hjs]; unfold wrap64; omega
  rw [if_pos trivial, if_pos (by omega), hwr, if_pos (by omega), if_pos (by omega), Int.toNat_natCast]
  have hex : w.extract (13 - l.length) w.size = strOfNums l ++ strOfNums [48 + chkL l] := by
    apply bytesOf_inj
    rw [bytesOf_extract, hwb, hbs, List.drop_left' (by simp)]
  rw [hex]
  have : ((strOfNums l ++ strOfNums [48 + chkL l]).toList != (strOfNums l ++ strOfNums [48 + chkL l]).toList) = false := by simp
  rw [this]
  exact check_j4 l hl hd x2 h0 h1 w hwb k (by omega)
theorem check_lp (x2 : Int) (h0 : 0 ≤ x2) (h1 : x2 < 18446744073709551616) : ∀ (e c k : Nat), c + e = 10 → 30 + 2 * e < k →
    barrowlaw02_GoodsCheckDigit.l0 k x2 l.length l (chkL l) c = some true
  | 0, c, k, he, hk => by
    obtain rfl : c = 10 := by omega
    exact check_end l hl hd x2 h0 h1 k (by omega)
  | e + 1, c, k, he, hk => by
    obtain ⟨K, hK, hk1, hk2⟩ : ∃ K, k = (K + 1) + 1 ∧ 20 < K ∧ 30 + 2 * e < K := ⟨k - 2, by omega⟩
    subst hK
    have ih := check_lp x2 h0 h1 e (c + 1) K (by omega) hk2
    have hsz := size_joined l hd c (by omega)
    have hg := gtin_joined l hl hd c (by omega) (K + 1) (by omega)
    have hz : (strOfNums l).size + (strOfNums [48 + (c : Int)]).size ≤ 9223372036854775807 := by rw [hsz.1, hsz.2]; omega
    have hc10 : (c : Int) < 10 := by omega
    have hw : wrap64 ((c : Int) + 1) = ((c + 1 : Nat) : Int) := by unfold wrap64; omega
    have hn : wrap64 ((l.length : Int) + 1) = (l.length : Int) + 1 := by clear hw; unfold wrap64; omega
    have hq : wrap64 (48 + (c : Int)) % 256 = 48 + (c : Int) := by clear hw hn; unfold wrap64; omega
    rw [barrowlaw02_GoodsCheckDigit.l0, if_pos hc10, hq, Option.bind_some, if_pos hz, hg, Option.bind_some]
    by_cases hc : chkL l = c
    · rw [if_pos hc, if_pos hc.symm, hn, if_pos rfl, barrowlaw02_GoodsCheckDigit.j3, if_neg (by simp), if_pos hc.symm, hw, ih]
    · rw [if_neg hc, if_neg (fun h => hc h.symm), barrowlaw02_GoodsCheckDigit.j3, if_neg (by simp), if_neg (fun h => hc h.symm), if_pos rfl, if_pos rfl, hw, ih]
end
theorem check_j0 (n : Nat) (hn : n = 7 ∨ n = 11 ∨ n = 12 ∨ n = 13) (a0 a2 : Int) (h0 : 0 ≤ a0) (h1 : a0 < 18446744073709551616) (g0 : 0 ≤ a2) (g1 : a2 < 18446744073709551616) :
    barrowlaw02_GoodsCheckDigit.j0 100 a0 a2 n = some true := by
  obtain ⟨l, hl, hlen, hd⟩ := turned_eq n (by omega) a0 h0 h1 99 (by omega)
  subst hlen
  have hr := chk_range l
  simp only [barrowlaw02_GoodsCheckDigit.j0]
  rw [hl]
  simp only [Option.bind_some]
  rw [digit_eq _ 99 (by omega), bytesOf_str _ (range_of l hd)]
  have hdl : digitL l = (chkL l, 0) := by
    unfold digitL
    rw [if_neg (by intro e; rw [e] at hn; simp at hn), if_neg (by omega), if_pos hn, if_pos ((all_dig l).2 hd)]
  rw [hdl]
  simp only [Option.bind_some]
  rw [if_pos trivial, if_neg (by omega), decide_eq_false (by omega)]
  simp only [barrowlaw02_GoodsCheckDigit.j1]
  rw [if_neg (by decide)]
  exact check_lp l hn hd a2 g0 g1 10 0 98 (by omega) (by omega)
theorem GoodsCheckDigit : barrowlaw02_GoodsCheckDigit.Pure := by
  intro a0 a1 a2 w0 _ w2
  refine ⟨100, ?_⟩
  have b0 : 0 ≤ a0 ∧ a0 < 18446744073709551616 := by have := bounds_u64 w0; omega
  have b2 : 0 ≤ a2 ∧ a2 < 18446744073709551616 := by have := bounds_u64 w2; omega
  unfold barrowlaw02_GoodsCheckDigit.f
  split
  · exact check_j0 11 (by omega) a0 a2 b0.1 b0.2 b2.1 b2.2
  · split
    · exact check_j0 12 (by omega) a0 a2 b0.1 b0.2 b2.1 b2.2
    · split
      · exact check_j0 13 (by omega) a0 a2 b0.1 b0.2 b2.1 b2.2
      · exact check_j0 7 (by omega) a0 a2 b0.1 b0.2 b2.1 b2.2
end Go.Proofs.Ytmicghhmbojkfaa.Pure
