/- What Check answers, the program's and the reference's alike, read off the list of a text's bytes. -/
import Derived.Test.YtlmdhpfggobogaaDoorGx48
import Derived.Test.YtlmdhpfggobogaaDoorGx17
namespace Go.Proofs.YtlmdhpfggobogaaDoor.G
open Go.RowKit Go.Proofs.YtlmdhpfggobogaaDoorW.PrintWords Go.Proofs.YtlmdhpfggobogaaDoorW.PrintLast
def isMarkI (c : Int) : Bool := decide (c = 45 ∨ c = 46)
def letterI (c : Int) : Bool := decide (65 ≤ c ∧ c ≤ 90)
def digitI (c : Int) : Bool := decide (48 ≤ c ∧ c ≤ 57)
theorem isLetter_eq (c : Int) : goods_isLetter.f c = some (letterI c) := by
  unfold goods_isLetter.f letterI
  by_cases h : 65 ≤ c
  · rw [if_pos h]; simp [h]
  · rw [if_neg h]; simp [h]
theorem isDigit_eq (c : Int) : goods_isDigit.f c = some (digitI c) := by
  unfold goods_isDigit.f digitI
  by_cases h : 48 ≤ c
  · rw [if_pos h]; simp [h]
  · rw [if_neg h]; simp [h]
theorem isMark_eq (c : Int) : goods_isMark.f c = some (isMarkI c) := by
  unfold goods_isMark.f isMarkI
  by_cases h45 : c = 45
  · rw [if_pos h45]; simp [h45]
  · rw [if_neg h45]; simp [h45]; rfl

theorem bytesOf_length (s : ByteArray) : (bytesOf s).length = s.size := by simp [bytesOf]
theorem bytesOf_range (s : ByteArray) : ∀ c ∈ bytesOf s, 0 ≤ c ∧ c ≤ 255 := by
  intro c hc
  simp only [bytesOf, List.mem_map] at hc
  obtain ⟨b, _, rfl⟩ := hc
  have := b.toNat_lt
  omega
theorem bt_getD (s : ByteArray) (i : Int) : bt s i = (bytesOf s).getD i.toNat 0 := by
  unfold bt bytesOf
  by_cases h : i.toNat < s.size
  · rw [dif_pos h, List.getD_eq_getElem?_getD, List.getElem?_map]
    rw [List.getElem?_eq_getElem (by simpa using h)]
    rfl
  · rw [dif_neg h, List.getD_eq_getElem?_getD, List.getElem?_eq_none (by simp; omega)]
    rfl
theorem bytesOf_drop (s : ByteArray) (i : Nat) (h : i < s.size) : (bytesOf s).drop i = bt s i :: (bytesOf s).drop (i + 1) := by
  rw [List.drop_eq_getElem_cons (by rw [bytesOf_length]; exact h), bt_getD, List.getD_eq_getElem?_getD, List.getElem?_eq_getElem (by rw [bytesOf_length]; simpa using h)]
  simp
theorem bytesOf_inj {s t : ByteArray} (h : bytesOf s = bytesOf t) : s = t := by
  have : s.data.toList = t.data.toList := by
    unfold bytesOf at h
    have inj : ∀ (a b : List UInt8), (a.map fun c => (c.toNat : Int)) = (b.map fun c => (c.toNat : Int)) → a = b := by
      intro a
      induction a with
      | nil => intro b h; cases b with
        | nil => rfl
        | cons y u => simp at h
      | cons x t ih => intro b h; cases b with
        | nil => simp at h
        | cons y u =>
          simp only [List.map_cons, List.cons.injEq] at h
          have hx : x = y := UInt8.toNat_inj.1 (by omega)
          rw [hx, ih u h.2]
    exact inj _ _ h
  cases s; cases t
  simp only [ByteArray.mk.injEq]
  exact Array.toList_inj.1 this
theorem bytesOf_str (l : List Int) (h : ∀ c ∈ l, 0 ≤ c ∧ c ≤ 255) : bytesOf (strOfNums l) = l := by
  unfold bytesOf strOfNums
  simp only [List.map_map]
  conv => rhs; rw [← List.map_id l]
  refine List.map_congr_left fun c hc => ?_
  have := h c hc
  simp only [Function.comp, id]
  rw [UInt8.toNat_ofNat']
  omega
theorem str_bytesOf (s : ByteArray) : strOfNums (bytesOf s) = s := bytesOf_inj (bytesOf_str _ (bytesOf_range s))

/-- Check's loop: pm: no mark may stand here. -/
def checkGo : Bool → Int → List Int → Int × Int
  | _, _, [] => (0, 0)
  | pm, i, c :: t => if (letterI c || digitI c) = true then checkGo false (i + 1) t else if (isMarkI c && !pm && !t.isEmpty) = true then checkGo true (i + 1) t else (i, 22)
def checkL (l : List Int) : Int × Int := if l = [] then (0, 20) else if 24 < l.length then (0, 21) else checkGo true 0 l

theorem check_l0 (s : ByteArray) (hs : s.size ≤ 24) : ∀ (d i k : Nat), i + d = s.size → 2 * d < k →
    goods_Check.l0 k s (s.size : Int) i = some (checkGo (decide (i = 0) || isMarkI (bt s ((i : Int) - 1))) i ((bytesOf s).drop i))
  | 0, i, k, hd, hk => by
    obtain ⟨k, rfl⟩ : ∃ m, k = m + 1 := ⟨k - 1, by omega⟩
    have : (bytesOf s).drop i = [] := List.drop_eq_nil_of_le (by rw [bytesOf_length]; omega)
    rw [this]
    simp only [goods_Check.l0]
    rw [if_neg (by omega)]
    rfl
  | d + 1, i, k, hd, hk => by
    obtain ⟨k, rfl⟩ : ∃ m, k = m + 2 := ⟨k - 2, by omega⟩
    have ih := check_l0 s hs d (i + 1) k (by omega) (by omega)
    have hw1 : wrap64 ((i : Int) + 1) = ((i + 1 : Nat) : Int) := by unfold wrap64; omega
    have hw2 : wrap64 ((i : Int) - 1) = (i : Int) - 1 := by unfold wrap64; omega
    have hw3 : wrap64 ((s.size : Int) - 1) = (s.size : Int) - 1 := by unfold wrap64; omega
    rw [bytesOf_drop s i (by omega)]
    have hdec : decide ((i + 1) = 0) = false := by simp
    rw [hdec, Bool.false_or, show (((i + 1 : Nat) : Int) - 1) = i from by omega] at ih
    have hj : ∀ b, goods_Check.j1 (k + 1) s (i : Int) (bt s i) (s.size : Int) (i : Int) b = some (if b = true then checkGo (isMarkI (bt s i)) ((i : Int) + 1) ((bytesOf s).drop (i + 1)) else if (isMarkI (bt s i) && !(decide (i = 0) || isMarkI (bt s ((i : Int) - 1))) && !((bytesOf s).drop (i + 1)).isEmpty) = true then checkGo true ((i : Int) + 1) ((bytesOf s).drop (i + 1)) else ((i : Int), 22)) := by
      intro b
      simp only [goods_Check.j1]
      rw [hw1, hw2, hw3, isMark_eq, isMark_eq, ih]
      by_cases hb : b = true
      · rw [if_pos hb, if_pos hb]; rfl
      · rw [if_neg hb, if_neg hb]
        simp only [Option.bind_some]
        have hemp : ((bytesOf s).drop (i + 1)).isEmpty = decide (d = 0) := by
          rw [Bool.eq_iff_iff, List.isEmpty_iff, decide_eq_true_eq, List.drop_eq_nil_iff, bytesOf_length]; omega
        rw [hemp]
        by_cases hm : isMarkI (bt s i) = true
        · rw [if_pos hm, hm, Bool.true_and]
          by_cases h0 : i = 0
          · subst h0
            rw [if_pos (by omega)]
            simp
          · rw [if_neg (by omega)]
            by_cases hd0 : d = 0
            · rw [if_pos (by omega)]
              simp [hd0]
            · rw [if_neg (by omega), if_pos (by omega), if_pos (by omega)]
              by_cases hp : isMarkI (bt s ((i : Int) - 1)) = true
              · rw [if_pos hp]; simp [hp]
              · rw [if_neg hp]
                have hp' : isMarkI (bt s ((i : Int) - 1)) = false := by simpa using hp
                simp [hp', h0, hd0]
        · rw [if_neg hm]
          have hm' : isMarkI (bt s i) = false := by simpa using hm
          simp [hm']
    simp only [goods_Check.l0, checkGo]
    rw [if_pos (by omega), if_pos (by omega), if_pos (by omega), isLetter_eq, isDigit_eq]
    simp only [Option.bind_some]
    have hmf : (letterI (bt s i) || digitI (bt s i)) = true → isMarkI (bt s i) = false := by
      intro h
      unfold letterI digitI at h
      unfold isMarkI
      simp at h ⊢
      omega
    by_cases hl : letterI (bt s i) = true
    · rw [if_pos hl, hj, if_pos rfl, hl, Bool.true_or, if_pos rfl, hmf (by rw [hl]; rfl)]
    · rw [if_neg hl, hj]
      have hl' : letterI (bt s i) = false := by simpa using hl
      rw [hl', Bool.false_or]
      by_cases hdg : digitI (bt s i) = true
      · rw [if_pos hdg, if_pos hdg, hmf (by rw [hdg]; simp)]
      · rw [if_neg hdg, if_neg hdg]

theorem check_eq (s : ByteArray) (k : Nat) (hk : 48 < k) : goods_Check.f k s = some (checkL (bytesOf s)) := by
  unfold goods_Check.f checkL
  have hn : s.toList = [] ↔ bytesOf s = [] := by
    rw [← List.length_eq_zero_iff, ← List.length_eq_zero_iff, bytesOf_length]
    rw [ByteArray.toList_eq s]
    simp
  by_cases h0 : bytesOf s = []
  · rw [if_pos (hn.2 h0), if_pos h0]
  · rw [if_neg (fun h => h0 (hn.1 h)), if_neg h0, bytesOf_length]
    by_cases h24 : 24 < s.size
    · rw [if_pos (by omega), if_pos h24]
    · rw [if_neg (by omega), if_neg h24]
      have := check_l0 s (by omega) s.size 0 k (by omega) (by omega)
      simpa using this
theorem rletter_eq (c : Int) : barrowref02_letter.f c = some (letterI c) := by
  unfold barrowref02_letter.f letterI
  by_cases h : c ≥ 65
  · rw [if_pos h]; simp; omega
  · rw [if_neg h]; simp; omega
theorem rdigit_eq (c : Int) : barrowref02_digit.f c = some (digitI c) := by
  unfold barrowref02_digit.f digitI
  by_cases h : c ≥ 48
  · rw [if_pos h]; simp; omega
  · rw [if_neg h]; simp; omega
theorem rmark_eq (c : Int) : barrowref02_mark.f c = some (isMarkI c) := by
  unfold barrowref02_mark.f isMarkI
  by_cases h45 : c = 45
  · rw [if_pos h45]; simp [h45]
  · rw [if_neg h45]; simp [h45]; rfl
theorem stands_eq (s : ByteArray) (hs : s.size ≤ 24) (i : Nat) (hi : i < s.size) (k : Nat) :
    barrowref02_stands.f (k + 1) s i = some ((letterI (bt s i) || digitI (bt s i)) || (isMarkI (bt s i) && !(decide (i = 0) || isMarkI (bt s ((i : Int) - 1))) && !((bytesOf s).drop (i + 1)).isEmpty)) := by
  have hw2 : wrap64 ((i : Int) - 1) = (i : Int) - 1 := by unfold wrap64; omega
  have hw3 : wrap64 ((s.size : Int) - 1) = (s.size : Int) - 1 := by unfold wrap64; omega
  have hemp : ((bytesOf s).drop (i + 1)).isEmpty = decide (i + 1 = s.size) := by
    rw [Bool.eq_iff_iff, List.isEmpty_iff, decide_eq_true_eq, List.drop_eq_nil_iff, bytesOf_length]; omega
  have hj : ∀ b, barrowref02_stands.j0 (k + 1) s i (bt s i) b = some (b || (isMarkI (bt s i) && !(decide (i = 0) || isMarkI (bt s ((i : Int) - 1))) && !((bytesOf s).drop (i + 1)).isEmpty)) := by
    intro b
    rw [barrowref02_stands.j0, hw2, hw3, rmark_eq, rmark_eq, hemp]
    clear hw2 hw3
    cases b with
    | true => simp
    | false =>
      rw [if_neg (by decide), Option.bind_some]
      by_cases hm : isMarkI (bt s i) = true
      · rw [if_pos hm, hm]
        by_cases h0 : i = 0
        · subst h0; simp
        · rw [if_neg (by omega)]
          by_cases h1 : i + 1 = s.size
          · rw [if_pos (by omega)]; simp [h1]
          · rw [if_neg (by omega), if_pos (by omega), if_pos (by omega)]; simp [h0, h1]
      · rw [if_neg hm]
        have hm' : isMarkI (bt s i) = false := by simpa using hm
        simp [hm']
  rw [barrowref02_stands.f, if_pos (by omega), if_pos (by omega), rletter_eq, rdigit_eq, Option.bind_some, Option.bind_some, hj, hj]
  by_cases hl : letterI (bt s i) = true
  · rw [if_pos hl, hl]; simp
  · rw [if_neg hl]
    have hl' : letterI (bt s i) = false := by simpa using hl
    rw [hl', Bool.false_or]
theorem rcheck_l0 (s : ByteArray) (hs : s.size ≤ 24) : ∀ (d i k : Nat), i + d = s.size → d + 1 < k →
    barrowref02_Check.l0 k s i = some (checkGo (decide (i = 0) || isMarkI (bt s ((i : Int) - 1))) i ((bytesOf s).drop i))
  | 0, i, k, hd, hk => by
    obtain ⟨k, rfl⟩ : ∃ m, k = m + 1 := ⟨k - 1, by omega⟩
    have : (bytesOf s).drop i = [] := List.drop_eq_nil_of_le (by rw [bytesOf_length]; omega)
    rw [this, barrowref02_Check.l0, if_neg (by omega)]
    rfl
  | d + 1, i, k, hd, hk => by
    obtain ⟨k, rfl⟩ : ∃ m, k = m + 2 := ⟨k - 2, by omega⟩
    have ih := rcheck_l0 s hs d (i + 1) (k + 1) (by omega) (by omega)
    have hw1 : wrap64 ((i : Int) + 1) = ((i + 1 : Nat) : Int) := by unfold wrap64; omega
    have hdec : decide ((i + 1) = 0) = false := by simp
    rw [hdec, Bool.false_or, show (((i + 1 : Nat) : Int) - 1) = i from by clear hw1; omega] at ih
    rw [barrowref02_Check.l0, if_pos (by clear hw1; omega), stands_eq s hs i (by omega), Option.bind_some, hw1, ih, bytesOf_drop s i (by omega)]
    have hmf : (letterI (bt s i) || digitI (bt s i)) = true → isMarkI (bt s i) = false := by
      intro h
      unfold letterI digitI at h
      unfold isMarkI
      simp at h ⊢
      clear hw1
      omega
    rw [checkGo]
    by_cases hl : (letterI (bt s i) || digitI (bt s i)) = true
    · rw [if_pos (by rw [hl]; rfl), if_pos hl, hmf hl]; rfl
    · have hl' : (letterI (bt s i) || digitI (bt s i)) = false := by simpa using hl
      rw [if_neg hl, hl', Bool.false_or]
      by_cases hc : (isMarkI (bt s i) && !(decide (i = 0) || isMarkI (bt s ((i : Int) - 1))) && !((bytesOf s).drop (i + 1)).isEmpty) = true
      · rw [if_pos hc, if_pos hc]
        have : isMarkI (bt s i) = true := by simp at hc; exact hc.1.1
        rw [this]; rfl
      · rw [if_neg hc, if_neg hc]
theorem rcheck_eq (s : ByteArray) (k : Nat) (hk : 48 < k) : barrowref02_Check.f k s = some (checkL (bytesOf s)) := by
  unfold barrowref02_Check.f checkL
  by_cases h0 : bytesOf s = []
  · have : s.size = 0 := by rw [← bytesOf_length, h0]; rfl
    rw [if_pos (by omega), if_pos h0]
  · have : s.size ≠ 0 := by intro e; exact h0 (List.length_eq_zero_iff.1 (by rw [bytesOf_length]; exact e))
    rw [if_neg (by omega), if_neg h0, bytesOf_length]
    by_cases h24 : 24 < s.size
    · rw [if_pos (by omega), if_pos h24]
    · rw [if_neg (by omega), if_neg h24]
      have := rcheck_l0 s (by omega) s.size 0 k (by omega) (by omega)
      simpa using this

end Go.Proofs.YtlmdhpfggobogaaDoor.G
