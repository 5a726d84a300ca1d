import Derived.Test.YtmicghhmbojkfaaGreatDoorQAl6
import Derived.Test.YtmicghhmbojkfaaGreatDoorQAl5
import Derived.Test.YtmicghhmbojkfaaGreatDoorQAl13
import Derived.Test.YtmicghhmbojkfaaGreatDoorQAl9
import Derived.Lib.SmallJoins
/- goods.ParseQty: what it answers for every text. -/
namespace Go.Proofs.YtmicghhmbojkfaaGreatDoor.G
open Go.RowKit Go.Proofs.YtmicghhmbojkfaaGreatDoorW.PrintWords Go.Proofs.YtmicghhmbojkfaaGreatDoorW.PrintLast Go.Proofs.YtmicghhmbojkfaaGreatDoorW.PrintMore
open Go.Proofs.YtmicghhmbojkfaaGreatDoor.Ord (dig)
/-- The number that a row of digits writes. -/
def valFrom : Int → List Int → Int
  | a, [] => a
  | a, c :: t => valFrom (a * 10 + (c - 48)) t
def val (l : List Int) : Int := valFrom 0 l
def qtyL (l : List Int) : Int × Int :=
  if l = [] then (0, 20) else if 7 < l.length then (0, 21) else if l.all dig = false ∨ (l.headD 0 = 48 ∧ 1 < l.length) then (0, 22) else if val l < 1 ∨ 1000000 < val l then (0, 6) else (val l, 0)
def goods_ParseQty.f (a0 : ByteArray) : Option (Int × Int) := some (qtyL (bytesOf a0))
theorem digD_eq (c : Int) : goods_isDigit.f c = some (dig c) := by
  unfold goods_isDigit.f dig
  by_cases h : 48 ≤ c
  · rw [if_pos h]; simp [h]
  · rw [if_neg h]; simp [h]
theorem btD_getD (s : ByteArray) (i : Int) : bt s i = (bytesOf s).getD i.toNat 0 := by
  unfold bt bytesOf
  by_cases h : i.toNat < s.size
  · rw [dif_pos h, List.getD_eq_getElem?_getD, List.getElem?_map]
    rw [List.getElem?_eq_getElem (by simpa using h)]
    rfl
  · rw [dif_neg h, List.getD_eq_getElem?_getD, List.getElem?_eq_none (by simp; omega)]
    rfl
theorem bytesD_drop (s : ByteArray) (i : Nat) (h : i < s.size) : (bytesOf s).drop i = bt s i :: (bytesOf s).drop (i + 1) := by
  rw [List.drop_eq_getElem_cons (by rw [bytesOf_length]; exact h), btD_getD, List.getD_eq_getElem?_getD, List.getElem?_eq_getElem (by rw [bytesOf_length]; simpa using h)]
  simp
theorem digitsD_l0 (s : ByteArray) (hs : s.size ≤ 1000) : ∀ (d i k : Nat), i + d = s.size → d < k →
    goods_digits.l0 k s (s.size : Int) i = some (((bytesOf s).drop i).all dig)
  | 0, i, k, hd, hk => by
    obtain ⟨k, rfl⟩ : ∃ m, k = m + 1 := ⟨k - 1, by omega⟩
    rw [List.drop_eq_nil_of_le (by rw [bytesOf_length]; omega)]
    simp only [goods_digits.l0]
    rw [if_neg (by omega)]; rfl
  | d + 1, i, k, hd, hk => by
    obtain ⟨k, rfl⟩ : ∃ m, k = m + 1 := ⟨k - 1, by omega⟩
    have ih := digitsD_l0 s hs d (i + 1) k (by omega) (by omega)
    have hw : wrap64 ((i : Int) + 1) = ((i + 1 : Nat) : Int) := by unfold wrap64; omega
    rw [bytesD_drop s i (by omega), List.all_cons]
    simp only [goods_digits.l0]
    rw [if_pos (by omega), if_pos (by omega), if_pos (by omega), digD_eq]
    simp only [Option.bind_some]
    by_cases h : dig (bt s i) = true
    · rw [if_pos h, hw, ih, h, Bool.true_and]
    · rw [if_neg h]
      have : dig (bt s i) = false := by simpa using h
      rw [this, Bool.false_and]
theorem digitsD_eq (s : ByteArray) (hs : s.size ≤ 1000) : goods_digits.f (s.size + 1) s = some ((bytesOf s).all dig) := by
  have := digitsD_l0 s hs s.size 0 (s.size + 1) (by omega) (by omega)
  unfold goods_digits.f
  simpa using this
theorem decFrom_val : ∀ (l : List UInt8) (a : Nat), (l.map fun b => (b.toNat : Int)).all dig = true → ∃ n, Lib.decFrom a l = some n ∧ (n : Int) = valFrom a (l.map fun b => (b.toNat : Int))
  | [], a, _ => ⟨a, rfl, rfl⟩
  | b :: r, a, h => by
    simp only [List.map_cons, List.all_cons, Bool.and_eq_true] at h
    have hb := Ord.dig_iff.1 h.1
    obtain ⟨n, hn, hv⟩ := decFrom_val r (a * 10 + (b.toNat - 48)) h.2
    refine ⟨n, ?_, ?_⟩
    · unfold Lib.decFrom Lib.digitVal
      rw [if_pos (by omega)]
      exact hn
    · rw [hv, List.map_cons, valFrom]
      congr 1
      omega
theorem atoi_val (s : ByteArray) (h : (bytesOf s).all dig = true) (hne : bytesOf s ≠ []) : Lib.atoi s.data.toList = some (val (bytesOf s)) := by
  unfold bytesOf at h hne ⊢
  generalize s.data.toList = l at *
  cases l with
  | nil => exact absurd rfl hne
  | cons b r =>
    obtain ⟨n, hn, hv⟩ := decFrom_val (b :: r) 0 h
    have hb : 48 ≤ b.toNat := by
      simp only [List.map_cons, List.all_cons, Bool.and_eq_true] at h
      have := Ord.dig_iff.1 h.1
      omega
    have h45 : (b == 45) = false := by
      rw [beq_eq_false_iff_ne]; intro e; subst e; simp at hb
    have h43 : (b == 43) = false := by
      rw [beq_eq_false_iff_ne]; intro e; subst e; simp at hb
    unfold Lib.atoi
    simp only [h45, h43]
    unfold Lib.decNat
    simp only [List.isEmpty_cons]
    show Option.map _ (Lib.decFrom 0 (b :: r)) = _
    rw [hn]
    unfold val
    simp only [Option.map_some, Option.some.injEq]
    exact hv
set_option maxHeartbeats 400000 in
theorem pqt_empty (a0 : ByteArray) (w : World) (h : a0.toList = []) : Calls Tryz.prog 15 #[.string a0] w fun e w' => e = .returned (.tuple #[.int .i64 0, .int .i64 20]) ∧ Below w.heap.size w w' := by
  have h1 : (a0.toList == ([] : List UInt8)) = true := beq_iff_eq.mpr h
  clear h
  go_enter Tryz.func15, Tryz.ntmps15
  go_wp2
  go_ret2
  exact ⟨rfl, Below.refl _ _⟩
set_option maxHeartbeats 400000 in
theorem pqt_long (a0 : ByteArray) (w : World) (h : a0.toList ≠ []) (h7 : 7 < a0.size) : Calls Tryz.prog 15 #[.string a0] w fun e w' => e = .returned (.tuple #[.int .i64 0, .int .i64 21]) ∧ Below w.heap.size w w' := by
  have h1 : (a0.toList == ([] : List UInt8)) = false := beq_eq_false_iff_ne.mpr h
  have h2 : decide (7 < a0.size) = true := decide_eq_true h7
  have h3 : decide (7 < (a0.size : Int)) = true := decide_eq_true (by omega)
  clear h h7
  go_enter Tryz.func15, Tryz.ntmps15
  go_wp2
  go_ret2
  exact ⟨rfl, Below.refl _ _⟩
set_option maxHeartbeats 400000 in
theorem pqt_byte (a0 : ByteArray) (w : World) (h : a0.toList ≠ []) (h7 : a0.size ≤ 7) (hd : (bytesOf a0).all dig = false) : Calls Tryz.prog 15 #[.string a0] w fun e w' => e = .returned (.tuple #[.int .i64 0, .int .i64 22]) ∧ Below w.heap.size w w' := by
  have h1 : (a0.toList == ([] : List UInt8)) = false := beq_eq_false_iff_ne.mpr h
  have h2 : decide (7 < a0.size) = false := decide_eq_false (by omega)
  have h3 : decide (7 < (a0.size : Int)) = false := decide_eq_false (by omega)
  have hc := digitsD_eq a0 (by omega)
  rw [hd] at hc
  have HC := Aside0.mk hc
  clear h hd hc h7
  go_enter Tryz.func15, Tryz.ntmps15
  go_wp2_with (go_at_call 21; refine (goods_digits.calls _ a0 false _ HC.out).mono ?_; rintro e w' ⟨rfl, ⟨nd, rfl⟩⟩)
  go_ret2
  exact ⟨rfl, by repeat (first | exact Below.refl _ _ | apply pw_below_drewN | apply below_drew1)⟩
set_option maxHeartbeats 400000 in
theorem pqt_zero (a0 : ByteArray) (w : World) (h : a0.toList ≠ []) (h0 : 0 < a0.size) (h7 : a0.size ≤ 7) (hd : (bytesOf a0).all dig = true) (hz : bt a0 0 = 48) (hl : 1 < a0.size) : Calls Tryz.prog 15 #[.string a0] w fun e w' => e = .returned (.tuple #[.int .i64 0, .int .i64 22]) ∧ Below w.heap.size w w' := by
  have h1 : (a0.toList == ([] : List UInt8)) = false := beq_eq_false_iff_ne.mpr h
  have h2 : decide (7 < a0.size) = false := decide_eq_false (by omega)
  have h3 : decide (7 < (a0.size : Int)) = false := decide_eq_false (by omega)
  have h4 : decide (1 < a0.size) = true := decide_eq_true hl
  have h5 : decide (1 < (a0.size : Int)) = true := decide_eq_true (by omega)
  have hb : ∀ hh : 0 < a0.size, (((a0[0]'hh).toNat : Int)) = 48 := fun hh => by rw [← hz]; exact bt_at a0 0 hh
  have hc := digitsD_eq a0 (by omega)
  rw [hd] at hc
  have HC := Aside0.mk hc
  clear h hd hc hz hl
  go_enter Tryz.func15, Tryz.ntmps15
  go_wp2_with (go_at_call 21; refine (goods_digits.calls _ a0 true _ HC.out).mono ?_; rintro e w' ⟨rfl, ⟨nd, rfl⟩⟩)
  go_ret2
  exact ⟨rfl, by repeat (first | exact Below.refl _ _ | apply pw_below_drewN | apply below_drew1)⟩
theorem pqt_below (w : World) (nd : Nat) (t : ByteArray) : Below w.heap.size w (Lib.bytesWorld (w.drewN nd) 5 t) :=
  (show Below w.heap.size w (w.drewN nd) by repeat (first | exact Below.refl _ _ | apply pw_below_drewN)).trans (Go.Joins.below_bytesWorld _ _ 5 t (Nat.le_refl _))
set_option maxHeartbeats 800000 in
theorem pqt_num (a0 : ByteArray) (w : World) (h : a0.toList ≠ []) (h0 : 0 < a0.size) (h7 : a0.size ≤ 7) (hd : (bytesOf a0).all dig = true) (hn : bytesOf a0 ≠ []) (hz : ¬ (bt a0 0 = 48 ∧ 1 < a0.size)) :
    Calls Tryz.prog 15 #[.string a0] w fun e w' => e = .returned (.tuple #[.int .i64 (if val (bytesOf a0) < 1 ∨ 1000000 < val (bytesOf a0) then 0 else val (bytesOf a0)), .int .i64 (if val (bytesOf a0) < 1 ∨ 1000000 < val (bytesOf a0) then 6 else 0)]) ∧ Below w.heap.size w w' := by
  have h1 : (a0.toList == ([] : List UInt8)) = false := beq_eq_false_iff_ne.mpr h
  have h2 : decide (7 < a0.size) = false := decide_eq_false (by omega)
  have h3 : decide (7 < (a0.size : Int)) = false := decide_eq_false (by omega)
  have ha := atoi_val a0 hd hn
  obtain ⟨n, hnv⟩ : ∃ n, val (bytesOf a0) = n := ⟨_, rfl⟩
  rw [hnv] at ha ⊢
  have hA := fun W => Tryz.strconv_Atoi a0 n (by omega) ha W
  have hc := digitsD_eq a0 (by omega)
  rw [hd] at hc
  have HC := Aside0.mk hc
  have hb : ∀ hh : 0 < a0.size, (((a0[0]'hh).toNat : Int)) = bt a0 0 := fun hh => bt_at a0 0 hh
  generalize bt a0 0 = c at hb hz
  clear h hd hc hn hnv ha
  by_cases hz1 : c = 48
  · have hl : ¬ 1 < a0.size := fun hl => hz ⟨hz1, hl⟩
    have h4 : decide (1 < a0.size) = false := decide_eq_false hl
    have h5 : decide (1 < (a0.size : Int)) = false := decide_eq_false (by omega)
    have h6 : (c == 48) = true := beq_iff_eq.mpr hz1
    clear hz hl hz1
    by_cases c1 : n < 1
    · have c1b : decide (n < 1) = true := decide_eq_true c1
      rw [if_pos (.inl c1), if_pos (.inl c1)]
      clear c1
      go_enter Tryz.func15, Tryz.ntmps15
      go_wp2_with (first | (go_at_call 21; refine (goods_digits.calls _ a0 true _ HC.out).mono ?_; rintro e w' ⟨rfl, ⟨nd, rfl⟩⟩) | (go_at_call 27; refine (hA _).mono ?_; rintro e w' ⟨rfl, t, rfl⟩))
      go_ret2
      exact ⟨rfl, pqt_below w nd t⟩
    · have c1b : decide (n < 1) = false := decide_eq_false c1
      by_cases c2 : 1000000 < n
      · have c2b : decide (1000000 < n) = true := decide_eq_true c2
        rw [if_pos (.inr c2), if_pos (.inr c2)]
        clear c1 c2
        go_enter Tryz.func15, Tryz.ntmps15
        go_wp2_with (first | (go_at_call 21; refine (goods_digits.calls _ a0 true _ HC.out).mono ?_; rintro e w' ⟨rfl, ⟨nd, rfl⟩⟩) | (go_at_call 27; refine (hA _).mono ?_; rintro e w' ⟨rfl, t, rfl⟩))
        go_ret2
        exact ⟨rfl, pqt_below w nd t⟩
      · have c2b : decide (1000000 < n) = false := decide_eq_false c2
        rw [if_neg (fun h => h.elim c1 c2), if_neg (fun h => h.elim c1 c2)]
        clear c1 c2
        go_enter Tryz.func15, Tryz.ntmps15
        go_wp2_with (first | (go_at_call 21; refine (goods_digits.calls _ a0 true _ HC.out).mono ?_; rintro e w' ⟨rfl, ⟨nd, rfl⟩⟩) | (go_at_call 27; refine (hA _).mono ?_; rintro e w' ⟨rfl, t, rfl⟩))
        go_ret2
        exact ⟨rfl, pqt_below w nd t⟩
  · have h6 : (c == 48) = false := beq_eq_false_iff_ne.mpr hz1
    clear hz hz1
    by_cases c1 : n < 1
    · have c1b : decide (n < 1) = true := decide_eq_true c1
      rw [if_pos (.inl c1), if_pos (.inl c1)]
      clear c1
      go_enter Tryz.func15, Tryz.ntmps15
      go_wp2_with (first | (go_at_call 21; refine (goods_digits.calls _ a0 true _ HC.out).mono ?_; rintro e w' ⟨rfl, ⟨nd, rfl⟩⟩) | (go_at_call 27; refine (hA _).mono ?_; rintro e w' ⟨rfl, t, rfl⟩))
      go_ret2
      exact ⟨rfl, pqt_below w nd t⟩
    · have c1b : decide (n < 1) = false := decide_eq_false c1
      by_cases c2 : 1000000 < n
      · have c2b : decide (1000000 < n) = true := decide_eq_true c2
        rw [if_pos (.inr c2), if_pos (.inr c2)]
        clear c1 c2
        go_enter Tryz.func15, Tryz.ntmps15
        go_wp2_with (first | (go_at_call 21; refine (goods_digits.calls _ a0 true _ HC.out).mono ?_; rintro e w' ⟨rfl, ⟨nd, rfl⟩⟩) | (go_at_call 27; refine (hA _).mono ?_; rintro e w' ⟨rfl, t, rfl⟩))
        go_ret2
        exact ⟨rfl, pqt_below w nd t⟩
      · have c2b : decide (1000000 < n) = false := decide_eq_false c2
        rw [if_neg (fun h => h.elim c1 c2), if_neg (fun h => h.elim c1 c2)]
        clear c1 c2
        go_enter Tryz.func15, Tryz.ntmps15
        go_wp2_with (first | (go_at_call 21; refine (goods_digits.calls _ a0 true _ HC.out).mono ?_; rintro e w' ⟨rfl, ⟨nd, rfl⟩⟩) | (go_at_call 27; refine (hA _).mono ?_; rintro e w' ⟨rfl, t, rfl⟩))
        go_ret2
        exact ⟨rfl, pqt_below w nd t⟩
theorem goods_ParseQty.calls (a0 : ByteArray) (r1 r2 : Int) (w : World) (h : goods_ParseQty.f a0 = some (r1, r2)) :
    Calls Tryz.prog 15 #[.string a0] w fun e w' => e = .returned (.tuple #[.int .i64 r1, .int .i64 r2]) ∧ Below w.heap.size w w' := by
  unfold goods_ParseQty.f qtyL at h
  have hnil : a0.toList = [] ↔ bytesOf a0 = [] := by
    rw [← List.length_eq_zero_iff, ← List.length_eq_zero_iff, bytesOf_length, ByteArray.toList_eq]
    simp
  by_cases h0 : bytesOf a0 = []
  · rw [if_pos h0] at h
    simp only [Option.some.injEq, Prod.mk.injEq] at h
    obtain ⟨rfl, rfl⟩ := h
    exact pqt_empty a0 w (hnil.2 h0)
  · rw [if_neg h0, bytesOf_length] at h
    have hne : a0.toList ≠ [] := fun e => h0 (hnil.1 e)
    have hpos : 0 < a0.size := by
      rw [← bytesOf_length]; exact List.length_pos_iff.2 h0
    by_cases h7 : 7 < a0.size
    · rw [if_pos h7] at h
      simp only [Option.some.injEq, Prod.mk.injEq] at h
      obtain ⟨rfl, rfl⟩ := h
      exact pqt_long a0 w hne h7
    · rw [if_neg h7] at h
      have hhd : (bytesOf a0).headD 0 = bt a0 0 := by
        rw [btD_getD, List.headD_eq_head?_getD, List.head?_eq_getElem?, List.getD_eq_getElem?_getD]; rfl
      rw [hhd] at h
      by_cases hd : (bytesOf a0).all dig = true
      · by_cases hz : bt a0 0 = 48 ∧ 1 < a0.size
        · rw [if_pos (.inr hz)] at h
          simp only [Option.some.injEq, Prod.mk.injEq] at h
          obtain ⟨rfl, rfl⟩ := h
          exact pqt_zero a0 w hne hpos (by omega) hd hz.1 hz.2
        · rw [if_neg (fun e => e.elim (fun e => by rw [hd] at e; cases e) hz)] at h
          refine (pqt_num a0 w hne hpos (by omega) hd h0 hz).mono fun e w' ⟨he, hw⟩ => ⟨?_, hw⟩
          rw [he]
          by_cases hv : val (bytesOf a0) < 1 ∨ 1000000 < val (bytesOf a0)
          · rw [if_pos hv] at h
            simp only [Option.some.injEq, Prod.mk.injEq] at h
            rw [if_pos hv, if_pos hv, h.1, h.2]
          · rw [if_neg hv] at h
            simp only [Option.some.injEq, Prod.mk.injEq] at h
            rw [if_neg hv, if_neg hv, h.1, h.2]
      · have hd' : (bytesOf a0).all dig = false := by simpa using hd
        rw [if_pos (.inl hd')] at h
        simp only [Option.some.injEq, Prod.mk.injEq] at h
        obtain ⟨rfl, rfl⟩ := h
        exact pqt_byte a0 w hne (by omega) hd'
end Go.Proofs.YtmicghhmbojkfaaGreatDoor.G
