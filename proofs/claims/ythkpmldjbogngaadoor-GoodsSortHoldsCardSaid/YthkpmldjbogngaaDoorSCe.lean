/- What the program's Compare answers: the natural order of the two texts' bytes. -/
import Derived.Test.YthkpmldjbogngaaDoorSx4
import Derived.Test.YthkpmldjbogngaaDoorOrd
namespace Go.Proofs.YthkpmldjbogngaaDoor.SP
open Go.RowKit Go.Proofs.YthkpmldjbogngaaDoor.S Go.Proofs.YthkpmldjbogngaaDoor.Ord Go.Proofs.YthkpmldjbogngaaDoorW.PrintWords Go.Proofs.YthkpmldjbogngaaDoorW.PrintLast

theorem isDigit_eq (c : Int) : goods_isDigit.f c = some (dig c) := by
  unfold goods_isDigit.f dig
  by_cases h : 48 ≤ c
  · rw [if_pos h]; simp [h]
  · rw [if_neg h]; simp [h]
theorem bt_getD (s : ByteArray) (i : Int) : bt s i = (bytesOf s).getD i.toNat 0 := by
  unfold bt bytesOf
  by_cases h : i.toNat < s.size
  · rw [dif_pos h, List.getD_eq_getElem?_getD, List.getElem?_map]
    rw [List.getElem?_eq_getElem (by simpa using h)]
    rfl
  · rw [dif_neg h, List.getD_eq_getElem?_getD, List.getElem?_eq_none (by simp; omega)]
    rfl
theorem bytesOf_drop (s : ByteArray) (i : Nat) (h : i < s.size) : (bytesOf s).drop i = bt s i :: (bytesOf s).drop (i + 1) := by
  rw [List.drop_eq_getElem_cons (by rw [bytesOf_length]; exact h), bt_getD, List.getD_eq_getElem?_getD, List.getElem?_eq_getElem (by rw [bytesOf_length]; simpa using h)]
  simp
theorem map_inj : ∀ (a b : List UInt8), (a.map fun c => (c.toNat : Int)) = (b.map fun c => (c.toNat : Int)) → a = b
  | [], [], _ => rfl
  | [], _ :: _, h => by simp at h
  | _ :: _, [], h => by simp at h
  | x :: t, y :: u, h => by
    simp only [List.map_cons, List.cons.injEq] at h
    have hx : x = y := UInt8.toNat_inj.1 (by omega)
    rw [hx, map_inj t u h.2]
theorem bytesOf_inj {s t : ByteArray} (h : bytesOf s = bytesOf t) : s = t := by
  have : s.data.toList = t.data.toList := map_inj _ _ h
  cases s; cases t
  simp only [ByteArray.mk.injEq]
  exact Array.toList_inj.1 this
theorem bytesOf_sub (s : ByteArray) (i j : Nat) : bytesOf (s.extract i j) = ((bytesOf s).drop i).take (j - i) := by
  unfold bytesOf
  rw [ByteArray.data_extract, Array.toList_extract, List.extract_eq_take_drop, List.map_take, List.map_drop]
theorem trim_eq (s : ByteArray) : ∃ r, strings_TrimLeft.f s (⟨#[48]⟩ : ByteArray) = some r ∧ bytesOf r = strip (bytesOf s) := by
  refine ⟨_, by unfold strings_TrimLeft.f; rw [if_pos rfl], ?_⟩
  unfold bytesOf strip Lib.trimLeftB
  simp only
  generalize s.data.toList = l
  induction l with
  | nil => rfl
  | cons c t ih =>
    simp only [List.dropWhile_cons, List.map_cons]
    by_cases h : c = 48
    · subst h
      simpa using ih
    · have h2 : ¬ ((c.toNat : Int) = 48) := by
        intro e
        exact h (UInt8.toNat_inj.1 (show c.toNat = (48 : UInt8).toNat by simpa using (by omega : c.toNat = 48)))
      simp [h, h2]
theorem compareBytes_eq : ∀ (a b : List UInt8), Lib.compareBytes a b = cmpL (a.map fun c => (c.toNat : Int)) (b.map fun c => (c.toNat : Int))
  | [], [] => by simp [Lib.compareBytes, cmpL]
  | [], _ :: _ => by simp [Lib.compareBytes, cmpL]
  | _ :: _, [] => by simp [Lib.compareBytes, cmpL]
  | x :: s, y :: t => by
    simp only [Lib.compareBytes, List.map_cons]
    rw [cmpL_cons, compareBytes_eq s t]
    have e1 : (x < y) ↔ ((x.toNat : Int) < (y.toNat : Int)) := by rw [UInt8.lt_iff_toNat_lt]; omega
    have e2 : (y < x) ↔ ((y.toNat : Int) < (x.toNat : Int)) := by rw [UInt8.lt_iff_toNat_lt]; omega
    simp only [e1, e2]
theorem scompare_eq (a b : ByteArray) : strings_Compare.f a b = some (cmpL (bytesOf a) (bytesOf b)) := by
  unfold strings_Compare.f
  rw [compareBytes_eq]; rfl
theorem numbers_eq (a b : ByteArray) : goods_numbers.f a b = some (cmpN (strip (bytesOf a)) (strip (bytesOf b))) := by
  obtain ⟨r, hr, hrb⟩ := trim_eq a
  obtain ⟨q, hq, hqb⟩ := trim_eq b
  unfold goods_numbers.f
  rw [hr, hq]
  simp only [Option.bind_some]
  rw [scompare_eq, ← hrb, ← hqb]
  unfold cmpN
  rw [bytesOf_length, bytesOf_length]
  by_cases h : r.size = q.size
  · rw [if_pos (by omega), if_neg (by omega), if_neg (by omega)]; rfl
  · rw [if_neg (by omega)]
    by_cases h2 : r.size < q.size
    · rw [if_pos (by omega), if_pos h2]
    · rw [if_neg (by omega), if_neg h2, if_pos (by omega)]

theorem piece_run (s : ByteArray) (hs : s.size ≤ 1152921504606846976) (i : Nat) (hi : i < s.size) (hd : dig (bt s i) = true) : ∀ (d j k : Nat), j + d = s.size → d < k →
    goods_piece.l0 k s i j = some ((j : Int) + ((((bytesOf s).drop j).takeWhile dig).length : Nat))
  | 0, j, k, hj, hk => by
    obtain ⟨k, rfl⟩ : ∃ m, k = m + 1 := ⟨k - 1, by omega⟩
    rw [List.drop_eq_nil_of_le (by rw [bytesOf_length]; omega)]
    simp only [goods_piece.l0]
    rw [if_pos (by omega), if_pos (by omega), isDigit_eq, hd]
    simp only [Option.bind_some]
    rw [if_pos trivial, if_neg (by omega)]
    simp
  | d + 1, j, k, hj, hk => by
    obtain ⟨k, rfl⟩ : ∃ m, k = m + 1 := ⟨k - 1, by omega⟩
    have ih := piece_run s hs i hi hd d (j + 1) k (by omega) (by omega)
    have hw : wrap64 ((j : Int) + 1) = ((j + 1 : Nat) : Int) := by unfold wrap64; omega
    rw [bytesOf_drop s j (by omega)]
    simp only [goods_piece.l0]
    rw [if_pos (by omega), if_pos (by omega), isDigit_eq, isDigit_eq, hd]
    simp only [Option.bind_some]
    rw [if_pos trivial, if_pos (by omega), if_pos (by omega)]
    by_cases h : dig (bt s j) = true
    · rw [if_pos h, hw, ih, List.takeWhile_cons_of_pos h, List.length_cons]
      congr 1
      omega
    · rw [if_neg h, List.takeWhile_cons_of_neg h]
      simp
/-- The end of the piece that begins at i. -/
theorem piece_eq (s : ByteArray) (hs : s.size ≤ 1152921504606846976) (i : Nat) (hi : i < s.size) (k : Nat) (hk : s.size < k) :
    goods_piece.f k s i = some (((i + 1 + (if dig (bt s i) = true then (((bytesOf s).drop (i + 1)).takeWhile dig).length else 0) : Nat) : Int)) := by
  have hw : wrap64 ((i : Int) + 1) = ((i + 1 : Nat) : Int) := by unfold wrap64; omega
  unfold goods_piece.f
  rw [hw]
  by_cases hd : dig (bt s i) = true
  · rw [if_pos hd, piece_run s hs i hi hd (s.size - (i + 1)) (i + 1) k (by omega) (by omega)]
    congr 1
  · obtain ⟨k, rfl⟩ : ∃ m, k = m + 1 := ⟨k - 1, by omega⟩
    rw [if_neg hd]
    simp only [goods_piece.l0]
    rw [if_pos (by omega), if_pos (by omega), isDigit_eq]
    simp only [Option.bind_some]
    rw [if_neg hd]
/-- The rest of the comparison, from two places on. -/
def restV (a b : ByteArray) (x y : List Int) : Int := if cmpL (key x) (key y) = 0 then cmpL (bytesOf a) (bytesOf b) else cmpL (key x) (key y)
theorem restV_step (a b : ByteArray) {x y x' y' : List Int} {c : Int} (h : cmpL (key x) (key y) = if c = 0 then cmpL (key x') (key y') else c) : restV a b x y = if c = 0 then restV a b x' y' else c := by
  unfold restV
  rw [h]
  by_cases hc : c = 0
  · rw [if_pos hc, if_pos hc]
  · rw [if_neg hc, if_neg hc, if_neg hc]
theorem drop_run (l : List Int) (i n : Nat) (h : ((l.drop i).takeWhile dig).length = n) : (l.drop i).dropWhile dig = l.drop (i + n) ∧ (l.drop i).take n = (l.drop i).takeWhile dig := by
  have e := List.takeWhile_append_dropWhile (p := dig) (l := l.drop i)
  constructor
  · rw [← List.drop_drop]
    conv => rhs; rw [← e]
    rw [List.drop_left' h]
  · conv => lhs; rw [← e]
    rw [List.take_left' h]
theorem pick3 (x y z : Int) : (if x < y then -1 else if y < x then 1 else z) = if (if x < y then (-1 : Int) else if y < x then 1 else 0) = 0 then z else (if x < y then -1 else if y < x then 1 else 0) := by
  by_cases h : x < y
  · simp [h]
  · by_cases h' : y < x <;> simp [h, h']
theorem compare_end (a b : ByteArray) (i j k : Nat) (hi : i = a.size) (hj : j ≤ b.size) (hk : 2 ≤ k) :
    goods_Compare.l0 k a b i j = some (restV a b ((bytesOf a).drop i) ((bytesOf b).drop j)) := by
  obtain ⟨k, rfl⟩ : ∃ m, k = m + 1 + 1 := ⟨k - 2, by omega⟩
  have hx : (bytesOf a).drop i = [] := List.drop_eq_nil_of_le (by rw [bytesOf_length]; omega)
  rw [goods_Compare.l0, if_neg (by omega), goods_Compare.j1, if_neg (by decide), if_neg (by omega), hx]
  by_cases hj' : j < b.size
  · rw [if_pos (by omega), bytesOf_drop b j hj']
    unfold restV
    rw [key_nil]
    have : ∀ z, cmpL [] (key (bt b j :: z)) = -1 := by
      intro z
      by_cases h : dig (bt b j) = true
      · rw [key_dig h]; simp [cmpL]
      · rw [key_other (by simpa using h)]; simp [cmpL]
    rw [this, if_neg (by omega)]
  · have hy : (bytesOf b).drop j = [] := List.drop_eq_nil_of_le (by rw [bytesOf_length]; omega)
    rw [if_neg (by omega), scompare_eq, hy]
    unfold restV
    rw [key_nil, if_pos (by simp [cmpL])]
    rfl
theorem compare_l0 (a b : ByteArray) (ha : a.size ≤ 1152921504606846976) (hb : b.size ≤ 1152921504606846976) : ∀ (d i j k : Nat), i ≤ a.size → j ≤ b.size → a.size - i ≤ d → 3 * d + a.size + b.size + 5 ≤ k →
    goods_Compare.l0 k a b i j = some (restV a b ((bytesOf a).drop i) ((bytesOf b).drop j)) := by
  intro d
  induction d with
  | zero =>
    intro i j k hi hj hd hk
    exact compare_end a b i j k (by omega) hj (by omega)
  | succ d ih =>
    intro i j k hi hj hd hk
    obtain ⟨K, rfl, hK⟩ : ∃ m, k = m + 3 ∧ 3 * d + a.size + b.size + 5 ≤ m := ⟨k - 3, by omega, by omega⟩
    by_cases hi' : i < a.size
    · by_cases hj' : j < b.size
      · have hpa := piece_eq a ha i hi' (K + 1) (by omega)
        have hpb := piece_eq b hb j hj' (K + 1) (by omega)
        have hda := bytesOf_drop a i hi'
        have hdb := bytesOf_drop b j hj'
        generalize hca : bt a i = ca at *
        generalize hcb : bt b j = cb at *
        generalize hna : (((bytesOf a).drop (i + 1)).takeWhile dig).length = na at *
        generalize hnb : (((bytesOf b).drop (j + 1)).takeWhile dig).length = nb at *
        have hla : na ≤ a.size - (i + 1) := by rw [← hna]; have := (List.takeWhile_sublist dig (l := (bytesOf a).drop (i + 1))).length_le; rw [List.length_drop, bytesOf_length] at this; exact this
        have hlb : nb ≤ b.size - (j + 1) := by rw [← hnb]; have := (List.takeWhile_sublist dig (l := (bytesOf b).drop (j + 1))).length_le; rw [List.length_drop, bytesOf_length] at this; exact this
        obtain ⟨ra1, ra2⟩ := drop_run _ _ _ hna
        obtain ⟨rb1, rb2⟩ := drop_run _ _ _ hnb
        rw [goods_Compare.l0, if_pos (by omega), decide_eq_true (by omega), goods_Compare.j1, if_pos rfl, hpa, Option.bind_some, hpb, Option.bind_some, if_pos (by omega), if_pos (by omega), hca, hcb, isDigit_eq, isDigit_eq, Option.bind_some]
        by_cases dA : dig ca = true
        · rw [if_pos dA, if_pos dA, if_pos (by omega), if_pos (by omega), Option.bind_some]
          by_cases dB : dig cb = true
          · rw [if_pos dB, goods_Compare.j2, if_pos dB, if_pos (by omega), if_pos (by omega), if_pos (by omega), if_pos (by omega), if_pos (by omega), if_pos (by omega), numbers_eq, Option.bind_some]
            simp only [Int.toNat_natCast]
            rw [bytesOf_sub, bytesOf_sub, hda, hdb]
            have ea : i + 1 + na - i = na + 1 := by omega
            have eb : j + 1 + nb - j = nb + 1 := by omega
            rw [ea, eb, List.take_succ_cons, List.take_succ_cons, ra2, rb2]
            have hk2 := ih (i + 1 + na) (j + 1 + nb) K (by omega) (by omega) (by omega) hK
            rw [hk2]
            have hs := restV_step a b (x := ca :: (bytesOf a).drop (i + 1)) (y := cb :: (bytesOf b).drop (j + 1)) (x' := (bytesOf a).drop (i + 1 + na)) (y' := (bytesOf b).drop (j + 1 + nb))
              (c := cmpN (strip (ca :: ((bytesOf a).drop (i + 1)).takeWhile dig)) (strip (cb :: ((bytesOf b).drop (j + 1)).takeWhile dig)))
              (by rw [key_dig dA, key_dig dB, cmpL_number, ra1, rb1])
            rw [hs]
            split <;> rfl
          · have dB' : dig cb = false := by simpa using dB
            have h1 := dig_iff.1 dA
            have h2 := dig_no.1 dB'
            rw [goods_Compare.j2, if_neg dB, if_pos (by omega), if_pos (by omega), if_pos (by omega), if_pos (by omega), hca, hcb]
            have hs : cmpL (key (ca :: (bytesOf a).drop (i + 1))) (key (cb :: (bytesOf b).drop (j + 1))) = if ca < cb then -1 else 1 := by
              rw [key_dig dA, key_other dB', cmpL_cons]
              by_cases h : ca < cb
              · rw [if_pos (by omega), if_pos h]
              · rw [if_neg (by omega), if_pos (by omega), if_neg h]
            rw [hda, hdb]
            unfold restV
            rw [hs]
            by_cases h : ca < cb
            · rw [if_pos h, if_neg (by omega), if_pos h, if_neg (by omega)]
            · rw [if_neg h, if_pos (by omega), if_neg (by omega), if_neg h, if_neg (by omega)]
        · have dA' : dig ca = false := by simpa using dA
          have h1 := dig_no.1 dA'
          rw [if_neg dA, if_neg dA, goods_Compare.j2, if_neg (by decide), if_pos (by omega), if_pos (by omega), if_pos (by omega), if_pos (by omega), hca, hcb, hda, hdb]
          by_cases dB : dig cb = true
          · have h2 := dig_iff.1 dB
            have hs : cmpL (key (ca :: (bytesOf a).drop (i + 1))) (key (cb :: (bytesOf b).drop (j + 1))) = if ca < cb then -1 else 1 := by
              rw [key_dig dB, key_other dA', cmpL_cons]
              by_cases h : ca < cb
              · rw [if_pos (by omega), if_pos h]
              · rw [if_neg (by omega), if_pos (by omega), if_neg h]
            unfold restV
            rw [hs]
            by_cases h : ca < cb
            · rw [if_pos h, if_neg (by omega), if_pos h, if_neg (by omega)]
            · rw [if_neg h, if_pos (by omega), if_neg (by omega), if_neg h, if_neg (by omega)]
          · have dB' : dig cb = false := by simpa using dB
            have hk2 := ih (i + 1) (j + 1) K (by omega) (by omega) (by omega) hK
            have hs := restV_step a b (x := ca :: (bytesOf a).drop (i + 1)) (y := cb :: (bytesOf b).drop (j + 1)) (x' := (bytesOf a).drop (i + 1)) (y' := (bytesOf b).drop (j + 1)) (c := if ca < cb then -1 else if cb < ca then 1 else 0)
              (by rw [key_other dA', key_other dB', cmpL_cons]; exact pick3 _ _ _)
            rw [hs, if_neg dB, Nat.add_zero, Nat.add_zero]
            by_cases h : ca < cb
            · rw [if_pos h, if_neg (by omega), if_pos h, if_neg (by omega)]
            · rw [if_neg h, if_neg h]
              by_cases h' : cb < ca
              · rw [if_pos (by omega), if_neg (by omega), if_pos h', if_neg (by omega)]
              · rw [if_neg (by omega), if_pos rfl, if_neg h', if_pos rfl, hk2]
      · have hy : (bytesOf b).drop j = [] := List.drop_eq_nil_of_le (by rw [bytesOf_length]; omega)
        rw [goods_Compare.l0, if_pos (by omega), decide_eq_false (by omega), goods_Compare.j1, if_neg (by decide), if_pos (by omega), hy, bytesOf_drop a i hi']
        unfold restV
        rw [key_nil]
        have : ∀ z, cmpL (key (bt a i :: z)) [] = 1 := by
          intro z
          by_cases h : dig (bt a i) = true
          · rw [key_dig h]; simp [cmpL]
          · rw [key_other (by simpa using h)]; simp [cmpL]
        rw [this, if_neg (by omega)]
    · exact compare_end a b i j (K + 3) (by omega) hj (by omega)
theorem compare_eq (a b : ByteArray) (ha : a.size ≤ 1152921504606846976) (hb : b.size ≤ 1152921504606846976) (k : Nat) (hk : 4 * a.size + b.size + 5 ≤ k) : goods_Compare.f k a b = some (natural (bytesOf a) (bytesOf b)) := by
  have := compare_l0 a b ha hb a.size 0 0 k (by omega) (by omega) (by omega) (by omega)
  unfold goods_Compare.f
  exact this
end Go.Proofs.YthkpmldjbogngaaDoor.SP
