/- What the reference's Compare answers: the natural order of the two texts' bytes. -/
import Derived.Test.YtmicghhmbojkfaaDoorSx3
import Derived.Test.YtmicghhmbojkfaaDoorSCe
namespace Go.Proofs.YtmicghhmbojkfaaDoor.SP
open Go.RowKit Go.Proofs.YtmicghhmbojkfaaDoor.S Go.Proofs.YtmicghhmbojkfaaDoor.Ord Go.Proofs.YtmicghhmbojkfaaDoorW.PrintWords Go.Proofs.YtmicghhmbojkfaaDoorW.PrintLast
theorem rdigit_eq (c : Int) : barrowref02_digit.f c = some (dig c) := by
  unfold barrowref02_digit.f dig
  by_cases h : c ≥ 48
  · rw [if_pos h]; simp; omega
  · rw [if_neg h]; simp; omega
theorem rorder_eq (a b : ByteArray) : barrowref02_bytesOrder.f a b = some (cmpL (bytesOf a) (bytesOf b)) := by
  unfold barrowref02_bytesOrder.f
  rw [compareBytes_eq]; rfl
theorem number_l1 (s : ByteArray) (hs : s.size ≤ 1152921504606846976) (j : Nat) (hj : j ≤ s.size) : ∀ (d c k : Nat), c + d = j → d < k →
    ∃ r, barrowref02_number.l1 k s j c = some (r, (j : Int)) ∧ bytesOf r = strip (((bytesOf s).drop c).take (j - c))
  | 0, c, k, hc, hk => by
    obtain ⟨k, rfl⟩ : ∃ q, k = q + 1 := ⟨k - 1, by omega⟩
    refine ⟨s.extract c j, ?_, ?_⟩
    · rw [barrowref02_number.l1, if_neg (by omega), if_pos (by omega), if_pos (by omega), if_pos (by omega), Int.toNat_natCast, Int.toNat_natCast]
    · rw [bytesOf_sub, show j - c = 0 from by omega]; rfl
  | d + 1, c, k, hc, hk => by
    obtain ⟨k, rfl⟩ : ∃ q, k = q + 1 := ⟨k - 1, by omega⟩
    have hd := bytesOf_drop s c (by omega)
    have e : j - c = (j - (c + 1)) + 1 := by omega
    by_cases h : bt s c = 48
    · obtain ⟨r, hr, hb⟩ := number_l1 s hs j hj d (c + 1) k (by omega) (by omega)
      refine ⟨r, ?_, ?_⟩
      · have hw : wrap64 ((c : Int) + 1) = ((c + 1 : Nat) : Int) := by unfold wrap64; omega
        rw [barrowref02_number.l1, if_pos (by clear hw; omega), if_pos (by clear hw; omega), if_pos (by clear hw; omega), if_pos h, hw, hr]
      · rw [hb, hd, e, List.take_succ_cons, h]
        conv => rhs; unfold strip
        rw [List.dropWhile_cons_of_pos (by simp)]; rfl
    · refine ⟨s.extract c j, ?_, ?_⟩
      · rw [barrowref02_number.l1, if_pos (by omega), if_pos (by omega), if_pos (by omega), if_neg h, if_pos (by omega), if_pos (by omega), Int.toNat_natCast, Int.toNat_natCast]
      · rw [bytesOf_sub, hd, e, List.take_succ_cons]
        unfold strip
        rw [List.dropWhile_cons_of_neg (by simpa using h)]
theorem number_l0 (s : ByteArray) (hs : s.size ≤ 1152921504606846976) (i : Nat) (k0 : Nat) (hk0 : s.size + 5 ≤ k0) : ∀ (d j k : Nat), j + d = s.size → i ≤ j → d + k0 < k →
    ∃ r, barrowref02_number.l0 k s i j = some (r, ((j + (((bytesOf s).drop j).takeWhile dig).length : Nat) : Int)) ∧ bytesOf r = strip (((bytesOf s).drop i).take (j + (((bytesOf s).drop j).takeWhile dig).length - i))
  | 0, j, k, hj, hi, hk => by
    obtain ⟨k, rfl⟩ : ∃ q, k = q + 2 := ⟨k - 2, by omega⟩
    have e : (bytesOf s).drop j = [] := List.drop_eq_nil_of_le (by rw [bytesOf_length]; omega)
    obtain ⟨r, hr, hb⟩ := number_l1 s hs j (by omega) (j - i) i k (by omega) (by omega)
    refine ⟨r, ?_, ?_⟩
    · rw [barrowref02_number.l0, if_neg (by omega), barrowref02_number.j1, hr, e]; rfl
    · rw [hb, e]; rfl
  | d + 1, j, k, hj, hi, hk => by
    obtain ⟨k, rfl⟩ : ∃ q, k = q + 2 := ⟨k - 2, by omega⟩
    have hd := bytesOf_drop s j (by omega)
    by_cases h : dig (bt s j) = true
    · obtain ⟨r, hr, hb⟩ := number_l0 s hs i k0 hk0 d (j + 1) (k + 1) (by omega) (by omega) (by omega)
      have e : j + 1 + (((bytesOf s).drop (j + 1)).takeWhile dig).length = j + (((bytesOf s).drop j).takeWhile dig).length := by
        rw [hd, List.takeWhile_cons_of_pos h, List.length_cons]; omega
      rw [e] at hr hb
      refine ⟨r, ?_, hb⟩
      have hw : wrap64 ((j : Int) + 1) = ((j + 1 : Nat) : Int) := by unfold wrap64; omega
      rw [barrowref02_number.l0, if_pos (by clear hw; omega), if_pos (by clear hw; omega), rdigit_eq, Option.bind_some, if_pos h, hw, hr]
    · have e : ((bytesOf s).drop j).takeWhile dig = [] := by rw [hd, List.takeWhile_cons_of_neg h]
      obtain ⟨r, hr, hb⟩ := number_l1 s hs j (by omega) (j - i) i k (by omega) (by omega)
      refine ⟨r, ?_, ?_⟩
      · rw [barrowref02_number.l0, if_pos (by omega), if_pos (by omega), rdigit_eq, Option.bind_some, if_neg h, barrowref02_number.j1, hr, e]; rfl
      · rw [hb, e]; rfl
theorem number_eq (s : ByteArray) (hs : s.size ≤ 1152921504606846976) (i : Nat) (hi : i < s.size) (hd : dig (bt s i) = true) (n : Nat) (hn : (((bytesOf s).drop (i + 1)).takeWhile dig).length = n) (k : Nat) (hk : 2 * s.size + 10 ≤ k) :
    ∃ r, barrowref02_number.f k s i = some (r, ((i + 1 + n : Nat) : Int)) ∧ bytesOf r = strip (bt s i :: ((bytesOf s).drop (i + 1)).takeWhile dig) := by
  obtain ⟨r, hr, hb⟩ := number_l0 s hs i (s.size + 5) (by omega) (s.size - i) i k (by omega) (by omega) (by omega)
  have hdr := bytesOf_drop s i hi
  have e : (((bytesOf s).drop i).takeWhile dig).length = n + 1 := by rw [hdr, List.takeWhile_cons_of_pos hd, List.length_cons, hn]
  rw [e] at hr hb
  refine ⟨r, ?_, ?_⟩
  · unfold barrowref02_number.f
    rw [hr, show i + (n + 1) = i + 1 + n from by omega]
  · rw [hb, hdr, show i + (n + 1) - i = n + 1 from by omega, List.take_succ_cons, (drop_run _ _ _ hn).2]
theorem rcompare_end (a b : ByteArray) (i j k : Nat) (hi : i ≤ a.size) (hj : j ≤ b.size) (he : i = a.size ∨ j = b.size) (hk : 3 ≤ k) :
    barrowref02_Compare.l0 k a b i j = some (restV a b ((bytesOf a).drop i) ((bytesOf b).drop j)) := by
  obtain ⟨k, rfl⟩ : ∃ m, k = m + 1 + 1 + 1 := ⟨k - 3, by omega⟩
  have key1 : ∀ s : ByteArray, ∀ i, i < s.size → cmpL [] (key ((bytesOf s).drop i)) = -1 := by
    intro s i hi
    rw [bytesOf_drop s i hi]
    by_cases h : dig (bt s i) = true
    · rw [key_dig h]; simp [cmpL]
    · rw [key_other (by simpa using h)]; simp [cmpL]
  have hj1 : barrowref02_Compare.l0 (k + 1 + 1 + 1) a b i j = barrowref02_Compare.j1 (k + 1 + 1) a b i j false := by
    rw [barrowref02_Compare.l0]
    by_cases h : i < a.size
    · rw [if_pos (by omega), decide_eq_false (by omega)]
    · rw [if_neg (by omega)]
  rw [hj1, barrowref02_Compare.j1, if_neg (by decide)]
  by_cases h : i = a.size
  · have hx : (bytesOf a).drop i = [] := List.drop_eq_nil_of_le (by rw [bytesOf_length]; omega)
    rw [if_pos (by omega), hx]
    by_cases hj' : j < b.size
    · rw [decide_eq_true (by omega), barrowref02_Compare.j3, if_pos rfl]
      unfold restV
      rw [key_nil, key1 b j hj', if_neg (by omega)]
    · have hy : (bytesOf b).drop j = [] := List.drop_eq_nil_of_le (by rw [bytesOf_length]; omega)
      rw [decide_eq_false (by omega), barrowref02_Compare.j3, if_neg (by decide), if_neg (by omega), rorder_eq, hy]
      unfold restV
      rw [key_nil, if_pos (by simp [cmpL])]
      rfl
  · have hy : (bytesOf b).drop j = [] := List.drop_eq_nil_of_le (by rw [bytesOf_length]; omega)
    rw [if_neg (by omega), barrowref02_Compare.j3, if_neg (by decide), if_pos (by omega), if_pos (by omega), hy]
    unfold restV
    rw [key_nil, cmpL_anti [] (key ((bytesOf a).drop i)), key1 a i (by omega)]
    rfl
theorem rcompare_l0 (a b : ByteArray) (ha : a.size ≤ 1152921504606846976) (hb : b.size ≤ 1152921504606846976) : ∀ (d i j k : Nat), i ≤ a.size → j ≤ b.size → a.size - i ≤ d → 3 * d + 2 * a.size + 2 * b.size + 20 ≤ k →
    barrowref02_Compare.l0 k a b i j = some (restV a b ((bytesOf a).drop i) ((bytesOf b).drop j)) := by
  intro d
  induction d with
  | zero =>
    intro i j k hi hj hd hk
    exact rcompare_end a b i j k hi hj (by omega) (by omega)
  | succ d ih =>
    intro i j k hi hj hd hk
    by_cases he : i = a.size ∨ j = b.size
    · exact rcompare_end a b i j k hi hj he (by omega)
    · obtain ⟨K, rfl, hK⟩ : ∃ m, k = m + 3 ∧ 3 * d + 2 * a.size + 2 * b.size + 20 ≤ m := ⟨k - 3, by omega, by omega⟩
      have hi' : i < a.size := by omega
      have hj' : j < b.size := by omega
      have hda := bytesOf_drop a i hi'
      have hdb := bytesOf_drop b j hj'
      have hna' := fun hd => number_eq a ha i hi' hd _ rfl K (by omega)
      have hnb' := fun hd => number_eq b hb j hj' hd _ rfl K (by omega)
      generalize hca : bt a i = ca at *
      generalize hcb : bt b j = cb at *
      generalize hna : (((bytesOf a).drop (i + 1)).takeWhile dig).length = na at *
      generalize hnb : (((bytesOf b).drop (j + 1)).takeWhile dig).length = nb at *
      have hla : na ≤ a.size - (i + 1) := by rw [← hna]; have := (List.takeWhile_sublist dig (l := (bytesOf a).drop (i + 1))).length_le; rw [List.length_drop, bytesOf_length] at this; exact this
      have hlb : nb ≤ b.size - (j + 1) := by rw [← hnb]; have := (List.takeWhile_sublist dig (l := (bytesOf b).drop (j + 1))).length_le; rw [List.length_drop, bytesOf_length] at this; exact this
      obtain ⟨ra1, ra2⟩ := drop_run _ _ _ hna
      obtain ⟨rb1, rb2⟩ := drop_run _ _ _ hnb
      rw [barrowref02_Compare.l0, if_pos (by omega), decide_eq_true (by omega), barrowref02_Compare.j1, if_pos rfl, if_pos (by omega), if_pos (by omega), hca, hcb, rdigit_eq, rdigit_eq, Option.bind_some]
      have step : ∀ (hs : cmpL (key (ca :: (bytesOf a).drop (i + 1))) (key (cb :: (bytesOf b).drop (j + 1))) = if (if ca < cb then -1 else if cb < ca then 1 else 0 : Int) = 0 then cmpL (key ((bytesOf a).drop (i + 1))) (key ((bytesOf b).drop (j + 1))) else (if ca < cb then -1 else if cb < ca then 1 else 0)),
          barrowref02_Compare.j2 (K + 1) a b i j false = some (restV a b (ca :: (bytesOf a).drop (i + 1)) (cb :: (bytesOf b).drop (j + 1))) := by
        intro hs
        have hs := restV_step a b hs
        have hk2 := ih (i + 1) (j + 1) K (by omega) (by omega) (by omega) hK
        have hw1 : wrap64 ((i : Int) + 1) = ((i + 1 : Nat) : Int) := by unfold wrap64; omega
        have hw2 : wrap64 ((j : Int) + 1) = ((j + 1 : Nat) : Int) := by clear hw1; unfold wrap64; omega
        rw [barrowref02_Compare.j2, if_neg (by decide), if_pos (by clear hw1 hw2; omega), if_pos (by clear hw1 hw2; omega), if_pos (by clear hw1 hw2; omega), if_pos (by clear hw1 hw2; omega), hca, hcb, hs, hw1, hw2]
        clear hw1 hw2
        by_cases h : ca < cb
        · rw [if_pos h, if_pos h, if_neg (by omega)]
        · rw [if_neg h, if_neg h]
          by_cases h' : cb < ca
          · rw [if_pos (by omega), if_pos h', if_neg (by omega)]
          · rw [if_neg (by omega), if_neg h', if_pos rfl, hk2]
      by_cases dA : dig ca = true
      · rw [if_pos dA, if_pos (by omega), if_pos (by omega), Option.bind_some]
        by_cases dB : dig cb = true
        · obtain ⟨x, hx, hxb⟩ := hna' dA
          obtain ⟨y, hy, hyb⟩ := hnb' dB
          have hxs : x.size = (strip (ca :: ((bytesOf a).drop (i + 1)).takeWhile dig)).length := by rw [← bytesOf_length, hxb]
          have hys : y.size = (strip (cb :: ((bytesOf b).drop (j + 1)).takeWhile dig)).length := by rw [← bytesOf_length, hyb]
          have hk2 := ih (i + 1 + na) (j + 1 + nb) K (by omega) (by omega) (by omega) hK
          have hs := restV_step a b (x := ca :: (bytesOf a).drop (i + 1)) (y := cb :: (bytesOf b).drop (j + 1)) (x' := (bytesOf a).drop (i + 1 + na)) (y' := (bytesOf b).drop (j + 1 + nb))
            (c := cmpN (strip (ca :: ((bytesOf a).drop (i + 1)).takeWhile dig)) (strip (cb :: ((bytesOf b).drop (j + 1)).takeWhile dig)))
            (by rw [key_dig dA, key_dig dB, cmpL_number, ra1, rb1])
          rw [dB, barrowref02_Compare.j2, if_pos rfl, hx, Option.bind_some, hy, Option.bind_some, hda, hdb, hs]
          dsimp only
          unfold cmpN
          rw [← hxs, ← hys]
          by_cases h1 : x.size < y.size
          · rw [if_pos (by omega), if_pos h1, if_neg (by omega)]
          · rw [if_neg (by omega), if_neg h1]
            by_cases h2 : y.size < x.size
            · rw [if_pos (by omega), if_pos h2, if_neg (by omega)]
            · rw [if_neg (by omega), if_neg h2, rorder_eq, Option.bind_some, hxb, hyb]
              split
              · exact hk2
              · rfl
        · have dB' : dig cb = false := by simpa using dB
          have h1 := dig_iff.1 dA
          have h2 := dig_no.1 dB'
          rw [dB', hda, hdb]
          refine step ?_
          rw [key_dig dA, key_other dB', cmpL_cons]
          by_cases h : ca < cb
          · simp [h, show (48 : Int) < cb by omega]
          · simp [h, show ¬ (48 : Int) < cb by omega, show cb < 48 by omega, show cb < ca by omega]
      · have dA' : dig ca = false := by simpa using dA
        have h1 := dig_no.1 dA'
        rw [if_neg dA, hda, hdb]
        refine step ?_
        by_cases dB : dig cb = true
        · have h2 := dig_iff.1 dB
          rw [key_dig dB, key_other dA', cmpL_cons]
          by_cases h : ca < cb
          · simp [h, show ca < 48 by omega]
          · simp [h, show ¬ ca < 48 by omega, show (48 : Int) < ca by omega, show cb < ca by omega]
        · have dB' : dig cb = false := by simpa using dB
          rw [key_other dA', key_other dB', cmpL_cons]; exact pick3 _ _ _
theorem rcompare_eq (a b : ByteArray) (ha : a.size ≤ 1152921504606846976) (hb : b.size ≤ 1152921504606846976) (k : Nat) (hk : 5 * a.size + 2 * b.size + 20 ≤ k) : barrowref02_Compare.f k a b = some (natural (bytesOf a) (bytesOf b)) := by
  have := rcompare_l0 a b ha hb a.size 0 0 k (by omega) (by omega) (by omega) (by omega)
  unfold barrowref02_Compare.f
  exact this
end Go.Proofs.YtmicghhmbojkfaaDoor.SP
