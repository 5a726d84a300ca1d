import Derived.Test.YtmicghhmbojkfaaGreatDoorQAl22
import Derived.Test.YtmicghhmbojkfaaGreatDoorQAl8
import Derived.Test.YtmicghhmbojkfaaGreatDoorQAl19
import Derived.Test.YtmicghhmbojkfaaGreatDoorQAl11
/- Plain lemmas on SKUs: what Check answers, read off the list of a text's bytes. -/
namespace Go.Proofs.YtmicghhmbojkfaaGreatDoor.G
open Go.RowKit Go.Proofs.YtmicghhmbojkfaaGreatDoorW.PrintWords Go.Proofs.YtmicghhmbojkfaaGreatDoorW.PrintLast

def letterI (c : Int) : Bool := decide (65 ≤ c ∧ c ≤ 90)
def digitI (c : Int) : Bool := decide (48 ≤ c ∧ c ≤ 57)
theorem isLetter_eq (c : Int) : goods_isLetter.f c = some (letterI c) := by
  unfold goods_isLetter.f letterI
  by_cases h : 65 ≤ c
  · rw [if_pos h]; simp [h]
  · rw [if_neg h]; simp [h]
theorem isDigit_eq (c : Int) : goods_isDigit.f c = some (digitI c) := by
  unfold goods_isDigit.f digitI
  by_cases h : 48 ≤ c
  · rw [if_pos h]; simp [h]
  · rw [if_neg h]; simp [h]
theorem isMark_eq (c : Int) : goods_isMark.f c = some (isMarkI c) := by
  unfold goods_isMark.f isMarkI
  by_cases h45 : c = 45
  · rw [if_pos h45]; simp [h45]
  · rw [if_neg h45]; simp [h45]; rfl

theorem bytesOf_length (s : ByteArray) : (bytesOf s).length = s.size := by simp [bytesOf]
theorem bt_getD (s : ByteArray) (i : Int) : bt s i = (bytesOf s).getD i.toNat 0 := by
  unfold bt bytesOf
  by_cases h : i.toNat < s.size
  · rw [dif_pos h, List.getD_eq_getElem?_getD, List.getElem?_map]
    rw [List.getElem?_eq_getElem (by simpa using h)]
    rfl
  · rw [dif_neg h, List.getD_eq_getElem?_getD, List.getElem?_eq_none (by simp; omega)]
    rfl
theorem bytesOf_drop (s : ByteArray) (i : Nat) (h : i < s.size) : (bytesOf s).drop i = bt s i :: (bytesOf s).drop (i + 1) := by
  rw [List.drop_eq_getElem_cons (by rw [bytesOf_length]; exact h), bt_getD, List.getD_eq_getElem?_getD, List.getElem?_eq_getElem (by rw [bytesOf_length]; simpa using h)]
  simp
theorem bytesOf_inj {s t : ByteArray} (h : bytesOf s = bytesOf t) : s = t := by
  have : s.data.toList = t.data.toList := by
    unfold bytesOf at h
    have inj : ∀ (a b : List UInt8), (a.map fun c => (c.toNat : Int)) = (b.map fun c => (c.toNat : Int)) → a = b := by
      intro a
      induction a with
      | nil => intro b h; cases b with
        | nil => rfl
        | cons y u => simp at h
      | cons x t ih => intro b h; cases b with
        | nil => simp at h
        | cons y u =>
          simp only [List.map_cons, List.cons.injEq] at h
          have hx : x = y := UInt8.toNat_inj.1 (by omega)
          rw [hx, ih u h.2]
    exact inj _ _ h
  cases s; cases t
  simp only [ByteArray.mk.injEq]
  exact Array.toList_inj.1 this
/-- Check's loop: pm: no mark may stand here. -/
def checkGo : Bool → Int → List Int → Int × Int
  | _, _, [] => (0, 0)
  | pm, i, c :: t => if (letterI c || digitI c) = true then checkGo false (i + 1) t else if (isMarkI c && !pm && !t.isEmpty) = true then checkGo true (i + 1) t else (i, 22)
def checkL (l : List Int) : Int × Int := if l = [] then (0, 20) else if 24 < l.length then (0, 21) else checkGo true 0 l

theorem check_l0 (s : ByteArray) (hs : s.size ≤ 24) : ∀ (d i k : Nat), i + d = s.size → 2 * d < k →
    goods_Check.l0 k s (s.size : Int) i = some (checkGo (decide (i = 0) || isMarkI (bt s ((i : Int) - 1))) i ((bytesOf s).drop i))
  | 0, i, k, hd, hk => by
    obtain ⟨k, rfl⟩ : ∃ m, k = m + 1 := ⟨k - 1, by omega⟩
    have : (bytesOf s).drop i = [] := List.drop_eq_nil_of_le (by rw [bytesOf_length]; omega)
    rw [this]
    simp only [goods_Check.l0]
    rw [if_neg (by omega)]
    rfl
  | d + 1, i, k, hd, hk => by
    obtain ⟨k, rfl⟩ : ∃ m, k = m + 2 := ⟨k - 2, by omega⟩
    have ih := check_l0 s hs d (i + 1) k (by omega) (by omega)
    have hw1 : wrap64 ((i : Int) + 1) = ((i + 1 : Nat) : Int) := by unfold wrap64; omega
    have hw2 : wrap64 ((i : Int) - 1) = (i : Int) - 1 := by unfold wrap64; omega
    have hw3 : wrap64 ((s.size : Int) - 1) = (s.size : Int) - 1 := by unfold wrap64; omega
    rw [bytesOf_drop s i (by omega)]
    have hdec : decide ((i + 1) = 0) = false := by simp
    rw [hdec, Bool.false_or, show (((i + 1 : Nat) : Int) - 1) = i from by omega] at ih
    have hj : ∀ b, goods_Check.j1 (k + 1) s (i : Int) (bt s i) (s.size : Int) (i : Int) b = some (if b = true then checkGo (isMarkI (bt s i)) ((i : Int) + 1) ((bytesOf s).drop (i + 1)) else if (isMarkI (bt s i) && !(decide (i = 0) || isMarkI (bt s ((i : Int) - 1))) && !((bytesOf s).drop (i + 1)).isEmpty) = true then checkGo true ((i : Int) + 1) ((bytesOf s).drop (i + 1)) else ((i : Int), 22)) := by
      intro b
      simp only [goods_Check.j1]
      rw [hw1, hw2, hw3, isMark_eq, isMark_eq, ih]
      by_cases hb : b = true
      · rw [if_pos hb, if_pos hb]; rfl
      · rw [if_neg hb, if_neg hb]
        simp only [Option.bind_some]
        have hemp : ((bytesOf s).drop (i + 1)).isEmpty = decide (d = 0) := by
          rw [Bool.eq_iff_iff, List.isEmpty_iff, decide_eq_true_eq, List.drop_eq_nil_iff, bytesOf_length]; omega
        rw [hemp]
        by_cases hm : isMarkI (bt s i) = true
        · rw [if_pos hm, hm, Bool.true_and]
          by_cases h0 : i = 0
          · subst h0
            rw [if_pos (by omega)]
            simp
          · rw [if_neg (by omega)]
            by_cases hd0 : d = 0
            · rw [if_pos (by omega)]
              simp [hd0]
            · rw [if_neg (by omega), if_pos (by omega), if_pos (by omega)]
              by_cases hp : isMarkI (bt s ((i : Int) - 1)) = true
              · rw [if_pos hp]; simp [hp]
              · rw [if_neg hp]
                have hp' : isMarkI (bt s ((i : Int) - 1)) = false := by simpa using hp
                simp [hp', h0, hd0]
        · rw [if_neg hm]
          have hm' : isMarkI (bt s i) = false := by simpa using hm
          simp [hm']
    simp only [goods_Check.l0, checkGo]
    rw [if_pos (by omega), if_pos (by omega), if_pos (by omega), isLetter_eq, isDigit_eq]
    simp only [Option.bind_some]
    have hmf : (letterI (bt s i) || digitI (bt s i)) = true → isMarkI (bt s i) = false := by
      intro h
      unfold letterI digitI at h
      unfold isMarkI
      simp at h ⊢
      omega
    by_cases hl : letterI (bt s i) = true
    · rw [if_pos hl, hj, if_pos rfl, hl, Bool.true_or, if_pos rfl, hmf (by rw [hl]; rfl)]
    · rw [if_neg hl, hj]
      have hl' : letterI (bt s i) = false := by simpa using hl
      rw [hl', Bool.false_or]
      by_cases hdg : digitI (bt s i) = true
      · rw [if_pos hdg, if_pos hdg, hmf (by rw [hdg]; simp)]
      · rw [if_neg hdg, if_neg hdg]

theorem check_eq (s : ByteArray) (k : Nat) (hk : 48 < k) : goods_Check.f k s = some (checkL (bytesOf s)) := by
  unfold goods_Check.f checkL
  have hn : s.toList = [] ↔ bytesOf s = [] := by
    rw [← List.length_eq_zero_iff, ← List.length_eq_zero_iff, bytesOf_length]
    rw [ByteArray.toList_eq s]
    simp
  by_cases h0 : bytesOf s = []
  · rw [if_pos (hn.2 h0), if_pos h0]
  · rw [if_neg (fun h => h0 (hn.1 h)), if_neg h0, bytesOf_length]
    by_cases h24 : 24 < s.size
    · rw [if_pos (by omega), if_pos h24]
    · rw [if_neg (by omega), if_neg h24]
      have := check_l0 s (by omega) s.size 0 k (by omega) (by omega)
      simpa using this
end Go.Proofs.YtmicghhmbojkfaaGreatDoor.G

/- What the reference's Check and Clean answer: what the program's do. -/
namespace Go.Proofs.YtmicghhmbojkfaaGreatDoor.PC
open Go.Proofs.YtmicghhmbojkfaaGreatDoor.G hiding bytesOf_length
open Go.RowKit Go.Proofs.YtmicghhmbojkfaaGreatDoorW.PrintWords Go.Proofs.YtmicghhmbojkfaaGreatDoorW.PrintLast
theorem rletter_eq (c : Int) : barrowref02_letter.f c = some (letterI c) := by
  unfold barrowref02_letter.f letterI
  by_cases h : c ≥ 65
  · rw [if_pos h]; simp; omega
  · rw [if_neg h]; simp; omega
theorem rdigit_eq (c : Int) : barrowref02_digit.f c = some (digitI c) := by
  unfold barrowref02_digit.f digitI
  by_cases h : c ≥ 48
  · rw [if_pos h]; simp; omega
  · rw [if_neg h]; simp; omega
theorem rmark_eq (c : Int) : barrowref02_mark.f c = some (isMarkI c) := by
  unfold barrowref02_mark.f isMarkI
  by_cases h45 : c = 45
  · rw [if_pos h45]; simp [h45]
  · rw [if_neg h45]; simp [h45]; rfl
theorem stands_eq (s : ByteArray) (hs : s.size ≤ 24) (i : Nat) (hi : i < s.size) (k : Nat) :
    barrowref02_stands.f (k + 1) s i = some ((letterI (bt s i) || digitI (bt s i)) || (isMarkI (bt s i) && !(decide (i = 0) || isMarkI (bt s ((i : Int) - 1))) && !((bytesOf s).drop (i + 1)).isEmpty)) := by
  have hw2 : wrap64 ((i : Int) - 1) = (i : Int) - 1 := by unfold wrap64; omega
  have hw3 : wrap64 ((s.size : Int) - 1) = (s.size : Int) - 1 := by unfold wrap64; omega
  have hemp : ((bytesOf s).drop (i + 1)).isEmpty = decide (i + 1 = s.size) := by
    rw [Bool.eq_iff_iff, List.isEmpty_iff, decide_eq_true_eq, List.drop_eq_nil_iff, bytesOf_length]; omega
  have hj : ∀ b, barrowref02_stands.j0 (k + 1) s i (bt s i) b = some (b || (isMarkI (bt s i) && !(decide (i = 0) || isMarkI (bt s ((i : Int) - 1))) && !((bytesOf s).drop (i + 1)).isEmpty)) := by
    intro b
    rw [barrowref02_stands.j0, hw2, hw3, rmark_eq, rmark_eq, hemp]
    clear hw2 hw3
    cases b with
    | true => simp
    | false =>
      rw [if_neg (by decide), Option.bind_some]
      by_cases hm : isMarkI (bt s i) = true
      · rw [if_pos hm, hm]
        by_cases h0 : i = 0
        · subst h0; simp
        · rw [if_neg (by omega)]
          by_cases h1 : i + 1 = s.size
          · rw [if_pos (by omega)]; simp [h1]
          · rw [if_neg (by omega), if_pos (by omega), if_pos (by omega)]; simp [h0, h1]
      · rw [if_neg hm]
        have hm' : isMarkI (bt s i) = false := by simpa using hm
        simp [hm']
  rw [barrowref02_stands.f, if_pos (by omega), if_pos (by omega), rletter_eq, rdigit_eq, Option.bind_some, Option.bind_some, hj, hj]
  by_cases hl : letterI (bt s i) = true
  · rw [if_pos hl, hl]; simp
  · rw [if_neg hl]
    have hl' : letterI (bt s i) = false := by simpa using hl
    rw [hl', Bool.false_or]
theorem rcheck_l0 (s : ByteArray) (hs : s.size ≤ 24) : ∀ (d i k : Nat), i + d = s.size → d + 1 < k →
    barrowref02_Check.l0 k s i = some (checkGo (decide (i = 0) || isMarkI (bt s ((i : Int) - 1))) i ((bytesOf s).drop i))
  | 0, i, k, hd, hk => by
    obtain ⟨k, rfl⟩ : ∃ m, k = m + 1 := ⟨k - 1, by omega⟩
    have : (bytesOf s).drop i = [] := List.drop_eq_nil_of_le (by rw [bytesOf_length]; omega)
    rw [this, barrowref02_Check.l0, if_neg (by omega)]
    rfl
  | d + 1, i, k, hd, hk => by
    obtain ⟨k, rfl⟩ : ∃ m, k = m + 2 := ⟨k - 2, by omega⟩
    have ih := rcheck_l0 s hs d (i + 1) (k + 1) (by omega) (by omega)
    have hw1 : wrap64 ((i : Int) + 1) = ((i + 1 : Nat) : Int) := by unfold wrap64; omega
    have hdec : decide ((i + 1) = 0) = false := by simp
    rw [hdec, Bool.false_or, show (((i + 1 : Nat) : Int) - 1) = i from by clear hw1; omega] at ih
    rw [barrowref02_Check.l0, if_pos (by clear hw1; omega), stands_eq s hs i (by omega), Option.bind_some, hw1, ih, bytesOf_drop s i (by omega)]
    have hmf : (letterI (bt s i) || digitI (bt s i)) = true → isMarkI (bt s i) = false := by
      intro h
      unfold letterI digitI at h
      unfold isMarkI
      simp at h ⊢
      clear hw1
      omega
    rw [checkGo]
    by_cases hl : (letterI (bt s i) || digitI (bt s i)) = true
    · rw [if_pos (by rw [hl]; rfl), if_pos hl, hmf hl]; rfl
    · have hl' : (letterI (bt s i) || digitI (bt s i)) = false := by simpa using hl
      rw [if_neg hl, hl', Bool.false_or]
      by_cases hc : (isMarkI (bt s i) && !(decide (i = 0) || isMarkI (bt s ((i : Int) - 1))) && !((bytesOf s).drop (i + 1)).isEmpty) = true
      · rw [if_pos hc, if_pos hc]
        have : isMarkI (bt s i) = true := by simp at hc; exact hc.1.1
        rw [this]; rfl
      · rw [if_neg hc, if_neg hc]
theorem rcheck_eq (s : ByteArray) (k : Nat) (hk : 48 < k) : barrowref02_Check.f k s = some (checkL (bytesOf s)) := by
  unfold barrowref02_Check.f checkL
  by_cases h0 : bytesOf s = []
  · have : s.size = 0 := by rw [← bytesOf_length, h0]; rfl
    rw [if_pos (by omega), if_pos h0]
  · have : s.size ≠ 0 := by intro e; exact h0 (List.length_eq_zero_iff.1 (by rw [bytesOf_length]; exact e))
    rw [if_neg (by omega), if_neg h0, bytesOf_length]
    by_cases h24 : 24 < s.size
    · rw [if_pos (by omega), if_pos h24]
    · rw [if_neg (by omega), if_neg h24]
      have := rcheck_l0 s (by omega) s.size 0 k (by omega) (by omega)
      simpa using this

/-- Clean's loop over numbers. -/
def goI : List Int → List Int → Int → List Int
  | [], out, _ => out
  | c :: t, out, m =>
    if c = 46 then goI t out 46
    else if c = 32 ∨ c = 9 ∨ c = 95 ∨ c = 47 ∨ c = 45 then goI t out (if m = 0 then 45 else m)
    else goI t ((if m = 0 then out else out ++ [m]) ++ [if 97 ≤ c ∧ c ≤ 122 then c - 32 else c]) 0
theorem go_goI (l : List UInt8) : ∀ out m, cleanGo l out m = goI (l.map fun b => (b.toNat : Int)) out m := by
  induction l with
  | nil => intro out m; rfl
  | cons c t ih => intro out m; simp only [cleanGo, List.map_cons, goI, ih]
theorem cleanOut_eq (s : ByteArray) : cleanOut s = strOfNums (dropMark (goI (bytesOf s) [] 0)) := by
  unfold cleanOut; rw [go_goI]; rfl
def isJ (c : Int) : Bool := decide (c = 46 ∨ c = 32 ∨ c = 9 ∨ c = 95 ∨ c = 47 ∨ c = 45)
theorem goI_run (r : List Int) (hr : ∀ x ∈ r, isJ x = true) : ∀ (u out : List Int) (m : Int), (m = 0 ∨ m = 45 ∨ m = 46) →
    goI (r ++ u) out m = goI u out (if 46 ∈ r ∨ m = 46 then 46 else if r = [] then m else 45) := by
  induction r with
  | nil =>
    intro u out m hm
    by_cases h : m = 46 <;> simp [h]
  | cons c t ih =>
    intro u out m hm
    have hc := hr c (by simp)
    simp only [isJ, decide_eq_true_eq] at hc
    have iht := ih (fun x hx => hr x (by simp [hx]))
    simp only [List.cons_append, goI]
    by_cases h46 : c = 46
    · rw [if_pos h46, iht u out 46 (by simp)]
      subst h46
      simp
    · rw [if_neg h46, if_pos (by omega), iht u out _ (by split <;> omega)]
      by_cases hm0 : m = 0
      · subst hm0
        simp only [if_true]
        by_cases ht : (46 : Int) ∈ t
        · simp [ht]
        · have : ¬ ((46 : Int) = c) := fun e => h46 e.symm
          simp [ht, this]
      · rw [if_neg hm0]
        by_cases ht : (46 : Int) ∈ t
        · simp [ht]
        · have : ¬ ((46 : Int) = c) := fun e => h46 e.symm
          rcases hm with rfl | rfl | rfl
          · omega
          · simp [ht, this]
          · simp
theorem goI_pre (l : List Int) : ∀ (p out : List Int) (m : Int), goI l (p ++ out) m = p ++ goI l out m := by
  induction l with
  | nil => intro p out m; rfl
  | cons c t ih =>
    intro p out m
    rw [goI, goI]
    by_cases h1 : c = 46
    · rw [if_pos h1, if_pos h1, ih]
    · rw [if_neg h1, if_neg h1]
      by_cases h2 : c = 32 ∨ c = 9 ∨ c = 95 ∨ c = 47 ∨ c = 45
      · rw [if_pos h2, if_pos h2, ih]
      · rw [if_neg h2, if_neg h2]
        by_cases h3 : m = 0
        · rw [if_pos h3, if_pos h3, List.append_assoc, ih]
        · rw [if_neg h3, if_neg h3, List.append_assoc, List.append_assoc, ih, List.append_assoc]
def up (c : Int) : Int := if 97 ≤ c ∧ c ≤ 122 then c - 32 else c
theorem goI_cons {c : Int} (h : isJ c = false) (t out : List Int) (m : Int) : goI (c :: t) out m = goI t ((if m = 0 then out else out ++ [m]) ++ [up c]) 0 := by
  simp only [isJ, decide_eq_false_iff_not, not_or] at h
  rw [goI, if_neg h.1, if_neg (by omega)]; rfl
theorem goI_mark {c : Int} (h : isJ c = false) (t out : List Int) (m : Int) (hm : m ≠ 0) : goI (c :: t) out m = goI (c :: t) (out ++ [m]) 0 := by
  rw [goI_cons h, goI_cons h, if_neg hm, if_pos rfl]
theorem up_mark {c : Int} (h : isJ c = false) : isMarkI (up c) = false := by
  simp only [isJ, decide_eq_false_iff_not, not_or] at h
  unfold up isMarkI
  split <;> (simp only [decide_eq_false_iff_not]; omega)
theorem drop_no {c : Int} (h : isJ c = false) (t : List Int) : dropMark (goI (c :: t) [] 0) = goI (c :: t) [] 0 := by
  rw [goI_cons h, if_pos rfl, goI_pre t [] ([up c]) 0, List.nil_append]
  have := goI_pre t [up c] [] 0
  rw [List.append_nil] at this
  rw [this]
  show (if isMarkI (up c) then goI t [] 0 else up c :: goI t [] 0) = _
  rw [up_mark h]; rfl
theorem drop_yes {c : Int} (h : isJ c = false) (t : List Int) (m : Int) (hm : m = 45 ∨ m = 46) : dropMark (goI (c :: t) [] m) = goI (c :: t) [] 0 := by
  rw [goI_mark h _ _ _ (by omega), List.nil_append]
  have := goI_pre (c :: t) [m] [] 0
  rw [List.append_nil] at this
  rw [this]
  show (if isMarkI m then goI (c :: t) [] 0 else m :: goI (c :: t) [] 0) = _
  rw [if_pos (by unfold isMarkI; simpa using hm)]
theorem dash_eq (c : Int) : barrowref02_dash.f c = some (decide (c = 32 ∨ c = 9 ∨ c = 95 ∨ c = 47 ∨ c = 45)) := by
  unfold barrowref02_dash.f
  repeat' split
  all_goals simp_all
  rfl
/-- The mark that a run comes to. -/
def mk (r : List Int) (m : Int) : Int := if 46 ∈ r then 46 else m
theorem joint_l0 (s : ByteArray) (hs : s.size ≤ 96) : ∀ (d j k : Nat) (m : Int), j + d = s.size → 2 * d + 2 < k →
    barrowref02_joint.l0 k s j m = some (mk (((bytesOf s).drop j).takeWhile isJ) m, ((j + (((bytesOf s).drop j).takeWhile isJ).length : Nat) : Int))
  | 0, j, k, m, hj, hk => by
    obtain ⟨k, rfl⟩ : ∃ q, k = q + 2 := ⟨k - 2, by omega⟩
    have e : (bytesOf s).drop j = [] := List.drop_eq_nil_of_le (by rw [bytesOf_length]; omega)
    rw [barrowref02_joint.l0, if_neg (by omega), barrowref02_joint.j1, if_neg (by decide), e]; rfl
  | d + 1, j, k, m, hj, hk => by
    obtain ⟨k, rfl⟩ : ∃ q, k = q + 2 := ⟨k - 2, by omega⟩
    have hd := bytesOf_drop s j (by omega)
    have hw : wrap64 ((j : Int) + 1) = ((j + 1 : Nat) : Int) := by unfold wrap64; omega
    have hjn : barrowref02_joint.l0 (k + 2) s j m = barrowref02_joint.j1 (k + 1) s j m (isJ (bt s j)) := by
      rw [barrowref02_joint.l0, if_pos (by clear hw; omega), if_pos (by clear hw; omega), dash_eq, Option.bind_some]
      by_cases h : bt s j = 32 ∨ bt s j = 9 ∨ bt s j = 95 ∨ bt s j = 47 ∨ bt s j = 45
      · rw [if_pos (by simpa using h), show isJ (bt s j) = true from by unfold isJ; simp only [decide_eq_true_eq]; exact .inr h]
      · rw [if_neg (by simpa using h), show isJ (bt s j) = (bt s j == 46) from by
          unfold isJ
          by_cases h46 : bt s j = 46
          · simp [h46]
          · rw [show (bt s j == 46) = false from by simpa using h46]; simp only [decide_eq_false_iff_not, not_or] at h ⊢; exact ⟨h46, h⟩]
    rw [hjn, barrowref02_joint.j1, hd]
    by_cases h : isJ (bt s j) = true
    · rw [if_pos h, if_pos (by clear hw; omega), if_pos (by clear hw; omega), hw, List.takeWhile_cons_of_pos h, List.length_cons]
      by_cases h46 : bt s j = 46
      · rw [if_pos h46, joint_l0 s hs d (j + 1) k 46 (by omega) (by omega)]
        refine congrArg some (Prod.ext ?_ (by simp only; omega))
        have e1 : mk (bt s j :: ((bytesOf s).drop (j + 1)).takeWhile isJ) m = 46 := if_pos (by rw [h46]; simp)
        rw [e1]
        unfold mk
        split <;> rfl
      · rw [if_neg h46, joint_l0 s hs d (j + 1) k m (by omega) (by omega)]
        refine congrArg some (Prod.ext ?_ (by simp only; omega))
        unfold mk
        have : ¬ ((46 : Int) = bt s j) := fun e => h46 e.symm
        simp [this]
    · rw [if_neg h, List.takeWhile_cons_of_neg h]; rfl
/-- The end: Check on what is out. -/
def fin (o : List Int) : ByteArray × Int := if (checkL (bytesOf (strOfNums o))).2 = 0 then (strOfNums o, 0) else (⟨#[]⟩, (checkL (bytesOf (strOfNums o))).2)
theorem take_split (l : List Int) : l = l.takeWhile isJ ++ l.drop (l.takeWhile isJ).length := by
  conv => lhs; rw [← List.takeWhile_append_dropWhile (p := isJ) (l := l)]
  congr 1
  conv => rhs; rw [show l.drop (l.takeWhile isJ).length = (l.takeWhile isJ ++ l.dropWhile isJ).drop (l.takeWhile isJ).length from by rw [List.takeWhile_append_dropWhile]]
  rw [List.drop_left]
theorem run_isJ (l : List Int) : ∀ x ∈ l.takeWhile isJ, isJ x = true := by
  induction l with
  | nil => intro x hx; cases hx
  | cons c t ih =>
    intro x hx
    by_cases h : isJ c = true
    · rw [List.takeWhile_cons_of_pos h] at hx
      rcases List.mem_cons.1 hx with rfl | hx
      · exact h
      · exact ih x hx
    · rw [List.takeWhile_cons_of_neg h] at hx; cases hx
theorem head_no (l : List Int) {c : Int} {t : List Int} (h : l.drop (l.takeWhile isJ).length = c :: t) : isJ c = false := by
  induction l with
  | nil => cases h
  | cons a u ih =>
    by_cases ha : isJ a = true
    · rw [List.takeWhile_cons_of_pos ha, List.length_cons, List.drop_succ_cons] at h; exact ih h
    · rw [List.takeWhile_cons_of_neg ha] at h
      simp at h
      rw [← h.1]; simpa using ha
theorem run_len (s : ByteArray) (i : Nat) (hi : i ≤ s.size) : i + (((bytesOf s).drop i).takeWhile isJ).length ≤ s.size := by
  have := (List.takeWhile_prefix isJ (l := (bytesOf s).drop i)).length_le
  rw [List.length_drop, bytesOf_length] at this
  omega
theorem clean_j2_run (s : ByteArray) (hs : s.size ≤ 96) (i : Nat) (hi : i < s.size) (out : List Int) (k : Nat) (hk : 300 < k) : isJ (bt s i) = true →
    barrowref02_Clean.l1 (k + 2) s out i = barrowref02_Clean.j3 k s out (mk (((bytesOf s).drop i).takeWhile isJ) 45) ((i + (((bytesOf s).drop i).takeWhile isJ).length : Nat) : Int) (decide (0 < i) && decide (i + (((bytesOf s).drop i).takeWhile isJ).length < s.size)) := by
  intro h
  have e : barrowref02_Clean.l1 (k + 2) s out i = barrowref02_Clean.j2 (k + 1) s out i (bt s i) true := by
    rw [barrowref02_Clean.l1, if_pos (by omega), if_pos (by omega), dash_eq, Option.bind_some]
    by_cases h1 : bt s i = 32 ∨ bt s i = 9 ∨ bt s i = 95 ∨ bt s i = 47 ∨ bt s i = 45
    · rw [if_pos (by simpa using h1)]
    · rw [if_neg (by simpa using h1), show (bt s i == 46) = true from by
        simp only [isJ, decide_eq_true_eq] at h
        simpa using h.resolve_right h1]
  rw [e, barrowref02_Clean.j2, if_pos rfl, barrowref02_joint.f, joint_l0 s hs (s.size - i) i k 45 (by omega) (by omega), Option.bind_some]
  by_cases h0 : 0 < i
  · rw [if_pos (by omega), show decide (0 < i) = true from decide_eq_true h0, Bool.true_and]
    congr 1
    rw [Bool.eq_iff_iff, decide_eq_true_eq, decide_eq_true_eq]; omega
  · rw [if_neg (by omega), show decide (0 < i) = false from decide_eq_false h0, Bool.false_and]
theorem clean_no (s : ByteArray) (i : Nat) (hi : i < s.size) (hs : s.size ≤ 96) (out : List Int) (ho : out.length ≤ 96) (k : Nat) : isJ (bt s i) = false →
    barrowref02_Clean.l1 (k + 2) s out i = barrowref02_Clean.l1 k s (out ++ [up (bt s i)]) ((i + 1 : Nat) : Int) := by
  intro h
  simp only [isJ, decide_eq_false_iff_not, not_or] at h
  have hw : wrap64 ((i : Int) + 1) = ((i + 1 : Nat) : Int) := by unfold wrap64; omega
  rw [barrowref02_Clean.l1, if_pos (by clear hw; omega), if_pos (by clear hw; omega), dash_eq, Option.bind_some, if_neg (by simp only [decide_eq_true_eq]; clear hw; omega),
    show (bt s i == 46) = false from by simpa using h.1, barrowref02_Clean.j2, if_neg (by decide), hw]
  clear hw
  unfold up
  by_cases h1 : bt s i ≥ 97
  · rw [if_pos h1]
    by_cases h2 : bt s i ≤ 122
    · rw [if_pos h2, if_pos (by omega), if_pos ⟨h1, h2⟩, show (bt s i - 32) % 256 = bt s i - 32 from by omega]
    · rw [if_neg h2, if_pos (by omega), if_neg (by omega)]
  · rw [if_neg h1, if_pos (by omega), if_neg (by omega)]
theorem clean_end (s : ByteArray) (out : List Int) (i : Nat) (hi : s.size ≤ i) (k : Nat) (hk : 100 < k) : barrowref02_Clean.l1 k s out i = some (fin out) := by
  obtain ⟨k, rfl⟩ : ∃ q, k = q + 1 := ⟨k - 1, by omega⟩
  rw [barrowref02_Clean.l1, if_neg (by omega), rcheck_eq _ k (by omega), Option.bind_some]
  unfold fin
  split <;> rfl
theorem mk_is (r : List Int) : mk r 45 = 45 ∨ mk r 45 = 46 := by unfold mk; split <;> simp
theorem goI_takeWhile (l out : List Int) (h : l.takeWhile isJ ≠ []) : goI l out 0 = goI (l.drop (l.takeWhile isJ).length) out (mk (l.takeWhile isJ) 45) := by
  conv => lhs; rw [take_split l]
  rw [goI_run _ (run_isJ l) _ _ _ (.inl rfl)]
  unfold mk
  simp [h]
theorem drop_add (s : ByteArray) (i n : Nat) : ((bytesOf s).drop i).drop n = (bytesOf s).drop (i + n) := by rw [List.drop_drop]
theorem clean_l1 (s : ByteArray) (hs : s.size ≤ 96) : ∀ (n i k : Nat) (out : List Int), s.size - i ≤ n → 0 < i → i ≤ s.size → out.length ≤ i → 4 * n + 400 < k →
    barrowref02_Clean.l1 k s out i = some (fin (goI ((bytesOf s).drop i) out 0))
  | 0, i, k, out, hn, h0, hi, ho, hk => by
    rw [clean_end s out i (by omega) k (by omega), List.drop_eq_nil_of_le (by rw [bytesOf_length]; omega)]; rfl
  | n + 1, i, k, out, hn, h0, hi, ho, hk => by
    obtain ⟨k, rfl⟩ : ∃ q, k = q + 3 := ⟨k - 3, by omega⟩
    by_cases he : i = s.size
    · rw [clean_end s out i (by omega) _ (by omega), List.drop_eq_nil_of_le (by rw [bytesOf_length]; omega)]; rfl
    have hd := bytesOf_drop s i (by omega)
    by_cases h : isJ (bt s i) = true
    · have hl := run_len s i hi
      have hne : ((bytesOf s).drop i).takeWhile isJ ≠ [] := by rw [hd, List.takeWhile_cons_of_pos h]; simp
      have hpos : 0 < (((bytesOf s).drop i).takeWhile isJ).length := List.length_pos_iff.2 hne
      rw [show k + 3 = (k + 1) + 2 from rfl, clean_j2_run s hs i (by omega) out (k + 1) (by omega) h, barrowref02_Clean.j3, goI_takeWhile _ _ hne, drop_add]
      by_cases hj : i + (((bytesOf s).drop i).takeWhile isJ).length < s.size
      · rw [if_pos (by simp [h0, hj]), if_pos (by omega), clean_l1 s hs n (i + (((bytesOf s).drop i).takeWhile isJ).length) k (out ++ [mk (((bytesOf s).drop i).takeWhile isJ) 45]) (by omega) (by omega) (by omega) (by rw [List.length_append, List.length_singleton]; omega) (by omega)]
        have hd2 := bytesOf_drop s (i + (((bytesOf s).drop i).takeWhile isJ).length) hj
        rw [hd2, goI_mark (head_no ((bytesOf s).drop i) (by rw [drop_add]; exact hd2)) _ out (mk (((bytesOf s).drop i).takeWhile isJ) 45) (by have := mk_is (((bytesOf s).drop i).takeWhile isJ); omega)]
      · rw [if_neg (by simp [hj]), clean_end s out _ (by omega) k (by omega), List.drop_eq_nil_of_le (by rw [bytesOf_length]; omega)]; rfl
    · have h' : isJ (bt s i) = false := by simpa using h
      rw [show k + 3 = (k + 1) + 2 from rfl, clean_no s i (by omega) hs out (by omega) (k + 1) h', clean_l1 s hs n (i + 1) (k + 1) (out ++ [up (bt s i)]) (by omega) (by omega) (by omega) (by rw [List.length_append, List.length_singleton]; omega) (by omega), hd, goI_cons h', if_pos rfl]
theorem clean_l1_0 (s : ByteArray) (hs : s.size ≤ 96) (k : Nat) (hk : 1000 < k) : barrowref02_Clean.l1 k s [] 0 = some (fin (dropMark (goI (bytesOf s) [] 0))) := by
  obtain ⟨k, rfl⟩ : ∃ q, k = q + 3 := ⟨k - 3, by omega⟩
  by_cases he : s.size = 0
  · have e : bytesOf s = [] := List.length_eq_zero_iff.1 (by rw [bytesOf_length]; exact he)
    have := clean_end s [] 0 (by omega) (k + 3) (by omega)
    rw [e]; exact this
  have hd := bytesOf_drop s 0 (by omega)
  rw [List.drop_zero] at hd
  by_cases h : isJ (bt s (0 : Nat)) = true
  · have hl := run_len s 0 (by omega)
    have hne : (bytesOf s).takeWhile isJ ≠ [] := by rw [hd, List.takeWhile_cons_of_pos h]; simp
    have hpos : 0 < ((bytesOf s).takeWhile isJ).length := List.length_pos_iff.2 hne
    have hr := clean_j2_run s hs 0 (by omega) [] (k + 1) (by omega) h
    rw [List.drop_zero, Nat.zero_add] at hr hl
    refine (show barrowref02_Clean.l1 (k + 3) s [] 0 = _ from hr).trans ?_
    rw [barrowref02_Clean.j3, if_neg (by simp), clean_l1 s hs s.size ((bytesOf s).takeWhile isJ).length k [] (by omega) (by omega) hl (by simp) (by omega), goI_takeWhile _ _ hne]
    cases hc : (bytesOf s).drop ((bytesOf s).takeWhile isJ).length with
    | nil => rfl
    | cons c t => rw [drop_yes (head_no _ hc) _ _ (mk_is _)]
  · have h' : isJ (bt s (0 : Nat)) = false := by simpa using h
    have hr := clean_no s 0 (by omega) hs [] (by simp) (k + 1) h'
    refine (show barrowref02_Clean.l1 (k + 3) s [] 0 = _ from hr).trans ?_
    rw [clean_l1 s hs s.size (0 + 1) (k + 1) ([] ++ [up (bt s (0 : Nat))]) (by omega) (by omega) (by omega) (by simp) (by omega), hd, drop_no h', goI_cons h', if_pos rfl]; rfl
theorem clean_l0 (s : ByteArray) (hs : s.size ≤ 96) : ∀ (d i k : Nat), i + d = s.size → d + 2000 < k →
    barrowref02_Clean.l0 k s i = some (if ((bytesOf s).drop i).any (fun c => decide (128 ≤ c)) = true then (⟨#[]⟩, 22) else fin (dropMark (goI (bytesOf s) [] 0)))
  | 0, i, k, hd, hk => by
    obtain ⟨k, rfl⟩ : ∃ m, k = m + 1 := ⟨k - 1, by omega⟩
    have : (bytesOf s).drop i = [] := List.drop_eq_nil_of_le (by rw [bytesOf_length]; omega)
    rw [this, barrowref02_Clean.l0, if_neg (by omega), clean_l1_0 s hs k (by omega)]
    rfl
  | d + 1, i, k, hd, hk => by
    obtain ⟨k, rfl⟩ : ∃ m, k = m + 1 := ⟨k - 1, by omega⟩
    have hw : wrap64 ((i : Int) + 1) = ((i + 1 : Nat) : Int) := by unfold wrap64; omega
    rw [barrowref02_Clean.l0, if_pos (by clear hw; omega), if_pos (by clear hw; omega), bytesOf_drop s i (by omega), List.any_cons, hw]
    by_cases h : bt s i ≥ 128
    · rw [if_pos h, if_pos (by simp [show (128 : Int) ≤ bt s i from h])]
    · rw [if_neg h, clean_l0 s hs d (i + 1) k (by omega) (by omega), show decide ((128 : Int) ≤ bt s i) = false from by simpa using h, Bool.false_or]
theorem wide_eq (s : ByteArray) : wideByte s = (bytesOf s).any fun c => decide (128 ≤ c) := by
  unfold wideByte bytesOf
  rw [List.any_map]
  congr 1
  funext c
  simp only [Function.comp]
  rw [Bool.eq_iff_iff, decide_eq_true_eq, decide_eq_true_eq]
  omega
/-- The two Cleans answer alike. -/
theorem clean_same (s : ByteArray) : ∃ v : ByteArray × Int, goods_Clean.f s = some v ∧ ∀ k, 3000 < k → barrowref02_Clean.f k s = some v := by
  unfold goods_Clean.f barrowref02_Clean.f
  by_cases h : 96 < s.size
  · exact ⟨_, if_pos h, fun k _ => by rw [if_pos (by omega)]⟩
  · rw [if_neg h]
    refine ⟨if wideByte s = true then (⟨#[]⟩, 22) else fin (dropMark (goI (bytesOf s) [] 0)), ?_, fun k hk => ?_⟩
    · by_cases hw : wideByte s = true
      · rw [if_pos hw, if_pos hw]
      · rw [if_neg hw, if_neg hw, check_eq _ 100 (by omega), Option.bind_some, cleanOut_eq]
        unfold fin
        split <;> rfl
    · rw [if_neg (by omega), wide_eq]
      have := clean_l0 s (by omega) s.size 0 k (by omega) (by omega)
      rw [List.drop_zero] at this
      exact this
end Go.Proofs.YtmicghhmbojkfaaGreatDoor.PC

/- Plain lemmas on patterns: what Match answers, read off the lists of the two texts' bytes. -/
namespace Go.Proofs.YtmicghhmbojkfaaGreatDoor.PM
open Go.Proofs.YtmicghhmbojkfaaGreatDoor.G hiding bytesOf_length
open Go.RowKit Go.Proofs.YtmicghhmbojkfaaGreatDoorW.PrintWords Go.Proofs.YtmicghhmbojkfaaGreatDoorW.PrintLast

theorem good_eq (s : ByteArray) (k : Nat) (hk : 48 < k) : goods_Good.f k s = some ((checkL (bytesOf s)).2 == 0) := by
  unfold goods_Good.f
  rw [check_eq s k hk]
  rfl
theorem chk_len (l : List Int) (h : (checkL l).2 = 0) : l.length ≤ 24 := by
  unfold checkL at h
  by_cases h0 : l = []
  · subst h0; simp
  · rw [if_neg h0] at h
    by_cases h1 : 24 < l.length
    · rw [if_pos h1] at h; simp at h
    · omega

def fitsB (p c : Int) : Bool := if p = 63 then true else if p = 35 then digitI c else if p = 64 then letterI c else p == c
theorem fits_eq (p c : Int) : goods_fits.f p c = some (fitsB p c) := by
  unfold goods_fits.f fitsB
  rw [isDigit_eq, isLetter_eq]
  repeat' split
  all_goals rfl
def starRow (f : List Int → Bool) : List Int → Bool
  | [] => f []
  | c :: t => f (c :: t) || starRow f t
/-- The pattern and the text, both from the end on. -/
def fitR : List Int → List Int → Bool
  | [] => fun t => t.isEmpty
  | d :: p => if d = 42 then starRow (fitR p) else fun t => match t with | [] => false | c :: t' => fitR p t' && fitsB d c
def okPat (c : Int) : Bool := letterI c || digitI c || isMarkI c || decide (c = 42 ∨ c = 63 ∨ c = 35 ∨ c = 64)
def matchL (p s : List Int) : Bool × Int :=
  if 48 < p.length then (false, 21) else if p.all okPat = false then (false, 22) else if (checkL s).2 = 0 then (fitR p.reverse s.reverse, 0) else (false, 5)

theorem idx_sign (c : Int) (h0 : 0 ≤ c) (h1 : c ≤ 255) : ∃ r, strings_IndexByte.f (⟨#[42, 63, 35, 64]⟩ : ByteArray) c = some r ∧ (r < 0 ↔ ¬ (c = 42 ∨ c = 63 ∨ c = 35 ∨ c = 64)) := by
  refine ⟨_, rfl, ?_⟩
  have : ∀ n : Fin 256, (Lib.indexByte [42, 63, 35, 64] n.1.toUInt8 < 0 ↔ ¬ ((n.1 : Int) = 42 ∨ (n.1 : Int) = 63 ∨ (n.1 : Int) = 35 ∨ (n.1 : Int) = 64)) := by decide +kernel
  have := this ⟨c.toNat, by omega⟩
  simp only at this
  rw [show ((c.toNat : Int)) = c from by omega] at this
  exact this

/-- One entry of the next row. -/
def cellN (row : List Bool) (s : ByteArray) (p : Int) (prev : Bool) (j : Nat) : Bool :=
  if p = 42 then row.getD j false || (decide (0 < j) && prev) else decide (0 < j) && row.getD (j - 1) false && fitsB p (bt s ((j : Int) - 1))
theorem rdOf_nat (xs : List Bool) (j : Nat) : rdOf false xs (j : Int) = xs.getD j false := by unfold rdOf; rfl
theorem setnat (xs : List Bool) (j : Nat) (b : Bool) : xs.set ((j : Int)).toNat b = xs.set j b := rfl

/-- What the row is from j on, once j places of it are done. -/
def fillN (row : List Bool) (s : ByteArray) (p : Int) : Nat → Nat → List Bool → List Bool
  | 0, _, nx => nx
  | d + 1, j, nx => fillN row s p d (j + 1) (nx.set j (cellN row s p (nx.getD (j - 1) false) j))
theorem match_l2 (x0 s : ByteArray) (x8 : List Bool) (i : Nat) (n : Int) (hi : i < x0.size) (hs : s.size ≤ 24) (h8 : x8.length = s.size + 1) : ∀ (d j k : Nat) (nx : List Bool), j + d = s.size + 1 → nx.length = s.size + 1 →
    goods_Match.l2 (k + d + 1) x0 s x8 i nx n i (s.size + 1 : Nat) j = goods_Match.l1 k x0 s (fillN x8 s (bt x0 i) d j nx) n (wrap64 ((i : Int) + 1))
  | 0, j, k, nx, hd, hn => by
    simp only [goods_Match.l2]
    rw [if_neg (by omega)]
    rfl
  | d + 1, j, k, nx, hd, hn => by
    have hw : wrap64 ((j : Int) + 1) = ((j + 1 : Nat) : Int) := by unfold wrap64; omega
    have ih : ∀ b, goods_Match.l2 (k + d + 1) x0 s x8 i (nx.set j b) n i (s.size + 1 : Nat) ((j + 1 : Nat) : Int) = goods_Match.l1 k x0 s (fillN x8 s (bt x0 i) d (j + 1) (nx.set j b)) n (wrap64 ((i : Int) + 1)) :=
      fun b => match_l2 x0 s x8 i n hi hs h8 d (j + 1) k (nx.set j b) (by omega) (by simpa using hn)
    have ek : k + (d + 1) + 1 = (k + d + 1) + 1 := by omega
    rw [ek]
    obtain ⟨K, hK⟩ : ∃ K, k + d + 1 = K := ⟨_, rfl⟩
    rw [hK] at ih ⊢
    clear ek hK
    simp only [goods_Match.l2, fillN]
    rw [if_pos (by omega), if_pos (by omega), if_pos (by omega)]
    have b1 : (0 : Int) ≤ (j : Int) := by omega
    have b2 : (j : Int) < (x8.length : Int) := by omega
    have b3 : (j : Int) < (nx.length : Int) := by omega
    rw [if_pos b1, if_pos b2, hw]
    simp only [if_pos b1, if_pos b3, rdOf_nat, setnat]
    by_cases hp : bt x0 i = 42
    · rw [if_pos hp]
      have hc : cellN x8 s (bt x0 i) (nx.getD (j - 1) false) j = (x8.getD j false || (decide (0 < j) && nx.getD (j - 1) false)) := by unfold cellN; rw [if_pos hp]
      rw [hc]
      by_cases h1 : x8.getD j false = true
      · rw [if_pos h1, h1, Bool.true_or, ih]
      · have h1' : x8.getD j false = false := by simpa using h1
        rw [if_neg h1, h1', Bool.false_or]
        by_cases h2 : 0 < j
        · have hw2 : wrap64 ((j : Int) - 1) = ((j - 1 : Nat) : Int) := by unfold wrap64; omega
          rw [if_pos (by omega), hw2, if_pos (by omega), if_pos (by omega), rdOf_nat, decide_eq_true h2, Bool.true_and, ih]
        · rw [if_neg (by omega), decide_eq_false h2, Bool.false_and, ih]
    · rw [if_neg hp]
      have hc : cellN x8 s (bt x0 i) (nx.getD (j - 1) false) j = (decide (0 < j) && x8.getD (j - 1) false && fitsB (bt x0 i) (bt s ((j : Int) - 1))) := by unfold cellN; rw [if_neg hp]
      rw [hc]
      by_cases h2 : 0 < j
      · have hw2 : wrap64 ((j : Int) - 1) = ((j - 1 : Nat) : Int) := by unfold wrap64; omega
        rw [if_pos (by omega), hw2, if_pos (by omega), if_pos (by omega), rdOf_nat, decide_eq_true h2, Bool.true_and]
        by_cases h3 : x8.getD (j - 1) false = true
        · rw [if_pos h3, if_pos (by omega), fits_eq, h3, Bool.true_and]
          simp only [Option.bind_some]
          rw [show (((j - 1 : Nat) : Int)) = (j : Int) - 1 from by omega, ih]
        · have h3' : x8.getD (j - 1) false = false := by simpa using h3
          rw [if_neg h3, h3', Bool.false_and, ih]
      · rw [if_neg (by omega), decide_eq_false h2, Bool.false_and, Bool.false_and, ih]

/-- The row that stands when the pattern's bytes so far are p (from the end on). -/
def rowOf (p : List Int) (s : List Int) (n : Nat) : List Bool := (List.range n).map fun j => fitR p (s.take j).reverse
theorem rowOf_length (p s : List Int) (n : Nat) : (rowOf p s n).length = n := by simp [rowOf]
theorem rowOf_getD (p s : List Int) (n j : Nat) (h : j < n) : (rowOf p s n).getD j false = fitR p (s.take j).reverse := by
  unfold rowOf
  rw [List.getD_eq_getElem?_getD, List.getElem?_map, List.getElem?_range h]
  rfl
theorem take_succ_rev (s : ByteArray) (j : Nat) (h : 0 < j) (hj : j ≤ s.size) : ((bytesOf s).take j).reverse = bt s ((j : Int) - 1) :: ((bytesOf s).take (j - 1)).reverse := by
  obtain ⟨m, rfl⟩ : ∃ m, j = m + 1 := ⟨j - 1, by omega⟩
  have hm : m < (bytesOf s).length := by rw [bytesOf_length]; omega
  rw [List.take_succ_eq_append_getElem hm, List.reverse_append]
  simp only [List.reverse_cons, List.reverse_nil, List.nil_append, List.cons_append, Nat.add_sub_cancel]
  rw [bt_getD, show (((m + 1 : Nat) : Int) - 1).toNat = m from by omega, List.getD_eq_getElem?_getD, List.getElem?_eq_getElem hm]
  rfl
theorem cell_fit (s : ByteArray) (p : List Int) (d : Int) (j : Nat) (hj : j ≤ s.size) :
    cellN (rowOf p (bytesOf s) (s.size + 1)) s d (decide (0 < j) && fitR (d :: p) ((bytesOf s).take (j - 1)).reverse) j = fitR (d :: p) ((bytesOf s).take j).reverse := by
  unfold cellN
  rw [rowOf_getD _ _ _ _ (by omega), rowOf_getD _ _ _ _ (by omega)]
  by_cases hd : d = 42
  · subst hd
    rw [if_pos rfl]
    by_cases h0 : 0 < j
    · rw [take_succ_rev s j h0 hj, decide_eq_true h0, Bool.true_and, Bool.true_and]
      simp only [fitR, if_true, starRow]
    · have : j = 0 := by omega
      subst this
      simp [fitR, starRow]
  · rw [if_neg hd]
    by_cases h0 : 0 < j
    · rw [take_succ_rev s j h0 hj, decide_eq_true h0, Bool.true_and]
      simp only [fitR, if_neg hd]
    · have : j = 0 := by omega
      subst this
      simp [fitR, if_neg hd]
/-- So far j places of the row are as they must be. -/
def partRow (p s : List Int) (n j : Nat) (nx : List Bool) : Prop := nx.length = n ∧ ∀ i, i < j → nx.getD i false = fitR p (s.take i).reverse
theorem fill_part (s : ByteArray) (p : List Int) (d : Int) : ∀ (m j : Nat) (nx : List Bool), j + m = s.size + 1 → partRow (d :: p) (bytesOf s) (s.size + 1) j nx →
    partRow (d :: p) (bytesOf s) (s.size + 1) (s.size + 1) (fillN (rowOf p (bytesOf s) (s.size + 1)) s d m j nx)
  | 0, j, nx, hm, h => by
    obtain rfl : j = s.size + 1 := by omega
    exact h
  | m + 1, j, nx, hm, ⟨h1, h2⟩ => by
    simp only [fillN]
    refine fill_part s p d m (j + 1) _ (by omega) ⟨by simpa using h1, fun i hi => ?_⟩
    rw [List.getD_eq_getElem?_getD, List.getElem?_set]
    by_cases e : j = i
    · subst e
      rw [if_pos rfl, if_pos (by omega)]
      show cellN _ s d _ j = _
      rw [← cell_fit s p d j (by omega)]
      by_cases h0 : 0 < j
      · rw [h2 (j - 1) (by omega), decide_eq_true h0, Bool.true_and]
      · have : j = 0 := by omega
        subst this
        unfold cellN
        simp
    · rw [if_neg e, ← List.getD_eq_getElem?_getD, h2 i (by omega)]
theorem part_all (p : List Int) (s : List Int) (n : Nat) (nx : List Bool) (h : partRow p s n n nx) : nx = rowOf p s n := by
  obtain ⟨h1, h2⟩ := h
  refine List.ext_getElem (by rw [h1, rowOf_length]) fun i hi hi2 => ?_
  have := h2 i (by omega)
  rw [← rowOf_getD p s n i (by omega), List.getD_eq_getElem?_getD, List.getD_eq_getElem?_getD, List.getElem?_eq_getElem hi, List.getElem?_eq_getElem hi2] at this
  simpa using this

theorem match_l1 (x0 s : ByteArray) (hs : s.size ≤ 24) (h0 : x0.size ≤ 48) : ∀ (d i k : Nat), i + d = x0.size → 30 * d < k →
    goods_Match.l1 k x0 s (rowOf ((bytesOf x0).take i).reverse (bytesOf s) (s.size + 1)) (x0.size : Int) i = some (fitR (bytesOf x0).reverse (bytesOf s).reverse, 0)
  | 0, i, k, hd, hk => by
    obtain ⟨k, rfl⟩ : ∃ m, k = m + 1 := ⟨k - 1, by omega⟩
    simp only [goods_Match.l1]
    rw [if_neg (by omega), if_pos (by omega), rowOf_length, if_pos (by omega), rdOf_nat, rowOf_getD _ _ _ _ (by omega)]
    rw [List.take_of_length_le (by rw [bytesOf_length]; omega), List.take_of_length_le (by rw [bytesOf_length]; omega)]
  | d + 1, i, k, hd, hk => by
    obtain ⟨k, rfl⟩ : ∃ m, k = m + (s.size + 1) + 1 + 1 := ⟨k - (s.size + 3), by omega⟩
    have hw : wrap64 ((s.size : Int) + 1) = ((s.size + 1 : Nat) : Int) := by unfold wrap64; omega
    have hw2 : wrap64 ((i : Int) + 1) = ((i + 1 : Nat) : Int) := by unfold wrap64; omega
    simp only [goods_Match.l1]
    rw [if_pos (by omega), hw, if_pos (by omega), if_pos (by omega), rowOf_length, show (((s.size + 1 : Nat) : Int)).toNat = s.size + 1 from rfl]
    have e2 := fun row hr nx hn => match_l2 x0 s row i (x0.size : Int) (by omega) hs hr (s.size + 1) 0 k nx (by omega) hn
    rw [show ((0 : Nat) : Int) = 0 from rfl] at e2
    rw [e2 _ (rowOf_length _ _ _) _ (by simp)]
    have := part_all _ _ _ _ (fill_part s ((bytesOf x0).take i).reverse (bt x0 i) (s.size + 1) 0 (List.replicate (s.size + 1) false) (by omega) ⟨by simp, fun i h => absurd h (by omega)⟩)
    rw [this, hw2, ← match_l1 x0 s hs h0 d (i + 1) k (by omega) (by omega)]
    rw [take_succ_rev x0 (i + 1) (by omega) (by omega), show (((i + 1 : Nat) : Int) - 1) = i from by omega, Nat.add_sub_cancel]

theorem row_start (s : ByteArray) (x0 : List Int) : ((List.replicate (((s.size + 1 : Nat) : Int)).toNat false).set (0 : Int).toNat true) = rowOf (x0.take 0).reverse (bytesOf s) (s.size + 1) := by
  rw [show (((s.size + 1 : Nat) : Int)).toNat = s.size + 1 from rfl, show (0 : Int).toNat = 0 from rfl]
  refine part_all _ _ _ _ ⟨by rw [List.length_set, List.length_replicate], fun i hi => ?_⟩
  rw [List.getD_eq_getElem?_getD, List.getElem?_set]
  by_cases e : i = 0
  · subst e
    rw [if_pos rfl, if_pos (by rw [List.length_replicate]; omega)]
    rfl
  · rw [if_neg (fun h => e h.symm), List.getElem?_replicate, if_pos hi]
    have hl : (bytesOf s).take i ≠ [] := by
      intro h
      have : ((bytesOf s).take i).length = 0 := by rw [h]; rfl
      rw [List.length_take, bytesOf_length] at this
      omega
    show false = (((bytesOf s).take i).reverse).isEmpty
    cases h : ((bytesOf s).take i).reverse with
    | nil => exact absurd (List.reverse_eq_nil_iff.1 h) hl
    | cons a b => rfl
theorem match_l0 (x0 s : ByteArray) (h0 : x0.size ≤ 48) (B : Nat) (hB : 1500 < B) (d : Nat) : ∀ (i k : Nat), i + d = x0.size → B + d < k →
    goods_Match.l0 k x0 s (x0.size : Int) i = some (if ((bytesOf x0).drop i).all okPat = false then (false, 22) else if (checkL (bytesOf s)).2 = 0 then (fitR (bytesOf x0).reverse (bytesOf s).reverse, 0) else (false, 5)) := by
  induction d with
  | zero =>
    intro i k hd hk
    obtain ⟨k, rfl⟩ : ∃ m, k = m + 1 := ⟨k - 1, by omega⟩
    have : (bytesOf x0).drop i = [] := List.drop_eq_nil_of_le (by rw [bytesOf_length]; omega)
    rw [this]
    simp only [goods_Match.l0]
    rw [if_neg (by omega), good_eq s k (by omega), Option.bind_some, List.all_nil, if_neg (show ¬ (true = false) by decide)]
    by_cases hc : (checkL (bytesOf s)).2 = 0
    · have hs := chk_len _ hc
      rw [bytesOf_length] at hs
      have hw : wrap64 ((s.size : Int) + 1) = ((s.size + 1 : Nat) : Int) := by unfold wrap64; omega
      rw [if_pos (by simpa using hc), if_pos hc, hw, if_pos (by omega), if_pos (by omega), Option.bind_some, if_pos (by rw [List.length_replicate]; omega)]
      rw [row_start s (bytesOf x0)]
      have e := match_l1 x0 s hs h0 x0.size 0 k (by omega) (by omega)
      rw [show ((0 : Nat) : Int) = 0 from rfl] at e
      rw [e]
    · rw [if_neg (by simpa using hc), if_neg hc]
  | succ d ihd =>
    intro i k hd hk
    obtain ⟨k, rfl⟩ : ∃ m, k = m + 1 := ⟨k - 1, by omega⟩
    have hw : wrap64 ((i : Int) + 1) = ((i + 1 : Nat) : Int) := by unfold wrap64; omega
    have ih := ihd (i + 1) k (by omega) (by omega)
    rw [bytesOf_drop x0 i (by omega), List.all_cons]
    simp only [goods_Match.l0]
    rw [if_pos (by omega), if_pos (by omega), if_pos (by omega), isLetter_eq, isDigit_eq, isMark_eq, hw, ih]
    simp only [Option.bind_some]
    obtain ⟨r, hr, hr2⟩ := idx_sign (bt x0 i) (bt_range x0 i).1 (bt_range x0 i).2
    rw [hr]
    simp only [Option.bind_some]
    unfold okPat
    by_cases h1 : letterI (bt x0 i) = true
    · rw [if_pos h1, h1]; simp
    · have h1' : letterI (bt x0 i) = false := by simpa using h1
      rw [if_neg h1, h1']
      by_cases h2 : digitI (bt x0 i) = true
      · rw [if_pos h2, h2]; simp
      · have h2' : digitI (bt x0 i) = false := by simpa using h2
        rw [if_neg h2, h2']
        by_cases h3 : isMarkI (bt x0 i) = true
        · rw [if_pos h3, h3]; simp
        · have h3' : isMarkI (bt x0 i) = false := by simpa using h3
          rw [if_neg h3, h3']
          by_cases h4 : r < 0
          · rw [if_pos h4, decide_eq_false (hr2.1 h4)]; simp
          · rw [if_neg h4, decide_eq_true (Classical.not_not.1 (fun h => h4 (hr2.2 h)))]; simp
theorem match_eq (p s : ByteArray) (k : Nat) (hk : 1700 < k) : goods_Match.f k p s = some (matchL (bytesOf p) (bytesOf s)) := by
  unfold goods_Match.f matchL
  rw [bytesOf_length]
  by_cases h : 48 < p.size
  · rw [if_pos (by omega), if_pos h]
  · rw [if_neg (by omega), if_neg h]
    have e := match_l0 p s (by omega) 1600 (by omega) p.size 0 k (by omega) (by omega)
    rw [show ((0 : Nat) : Int) = 0 from rfl, List.drop_zero] at e
    exact e
end Go.Proofs.YtmicghhmbojkfaaGreatDoor.PM

/- What the reference's Match answers: what the program's does. -/
namespace Go.Proofs.YtmicghhmbojkfaaGreatDoor.PM
open Go.Proofs.YtmicghhmbojkfaaGreatDoor.G hiding bytesOf_length
open Go.RowKit Go.Proofs.YtmicghhmbojkfaaGreatDoorW.PrintWords Go.Proofs.YtmicghhmbojkfaaGreatDoorW.PrintLast
theorem rfits_eq (p c : Int) : barrowref02_fits.f p c = some (fitsB p c) := by
  unfold barrowref02_fits.f fitsB
  rw [PC.rdigit_eq, PC.rletter_eq]
  repeat' split
  all_goals rfl
theorem rmatch_l2 (x0 s : ByteArray) (p : List Int) (i : Nat) (hi : i < x0.size) (hs : s.size ≤ 24) : ∀ (d j k : Nat) (nx : List Bool), j + d = s.size + 1 → partRow (bt x0 i :: p) (bytesOf s) (s.size + 1) j nx → (∀ q, j ≤ q → nx.getD q false = false) →
    barrowref02_Match.l2 (k + 2 * d + 1) x0 s (rowOf p (bytesOf s) (s.size + 1)) i nx (decide (0 < j) && fitR (42 :: p) ((bytesOf s).take (j - 1)).reverse) j = barrowref02_Match.l1 k x0 s (rowOf (bt x0 i :: p) (bytesOf s) (s.size + 1)) (wrap64 ((i : Int) + 1))
  | 0, j, k, nx, hd, hn, _ => by
    obtain rfl : j = s.size + 1 := by omega
    rw [barrowref02_Match.l2, if_neg (by omega), part_all _ _ _ _ hn]
  | d + 1, j, k, nx, hd, hn, hf => by
    have hw : wrap64 ((j : Int) + 1) = ((j + 1 : Nat) : Int) := by unfold wrap64; omega
    have hlen : (rowOf p (bytesOf s) (s.size + 1)).length = s.size + 1 := rowOf_length _ _ _
    have hc42 := cell_fit s p 42 j (by omega)
    have hcd := cell_fit s p (bt x0 i) j (by omega)
    -- what is held as 'any so far' behind this place
    have h11 : ((decide (0 < j) && fitR (42 :: p) ((bytesOf s).take (j - 1)).reverse) || (rowOf p (bytesOf s) (s.size + 1)).getD j false) = fitR (42 :: p) ((bytesOf s).take j).reverse := by
      rw [← hc42]
      unfold cellN
      rw [if_pos rfl, Bool.or_comm]
      cases decide (0 < j) <;> simp
    have hnext : fitR (42 :: p) ((bytesOf s).take j).reverse = (decide (0 < j + 1) && fitR (42 :: p) ((bytesOf s).take (j + 1 - 1)).reverse) := by
      rw [decide_eq_true (by omega), Bool.true_and, Nat.add_sub_cancel]
    have ek : k + 2 * (d + 1) + 1 = (k + 2 * d + 1) + 2 := by omega
    have step : barrowref02_Match.l2 (k + 2 * (d + 1) + 1) x0 s (rowOf p (bytesOf s) (s.size + 1)) i nx (decide (0 < j) && fitR (42 :: p) ((bytesOf s).take (j - 1)).reverse) j = barrowref02_Match.j3 ((k + 2 * d + 1) + 1) x0 s (rowOf p (bytesOf s) (s.size + 1)) i nx (fitR (42 :: p) ((bytesOf s).take j).reverse) j := by
      rw [ek, ← h11]
      generalize (decide (0 < j) && fitR (42 :: p) ((bytesOf s).take (j - 1)).reverse) = b
      rw [barrowref02_Match.l2, if_pos (by clear hw; omega), rdOf_nat, hlen]
      cases b with
      | true => rw [if_pos rfl, Bool.true_or]
      | false => rw [if_neg (by decide), if_pos (by clear hw; omega), if_pos (by clear hw; omega), Bool.false_or]
    rw [step, barrowref02_Match.j3, if_pos (by clear hw; omega), if_pos (by clear hw; omega), hw]
    clear hw step ek
    have hnl : nx.length = s.size + 1 := hn.1
    -- the place is as it must be
    have fin : ∀ nx' : List Bool, nx'.length = s.size + 1 → (∀ q, q ≠ j → nx'.getD q false = nx.getD q false) → nx'.getD j false = fitR (bt x0 i :: p) ((bytesOf s).take j).reverse →
        barrowref02_Match.l2 (k + 2 * d + 1) x0 s (rowOf p (bytesOf s) (s.size + 1)) i nx' (fitR (42 :: p) ((bytesOf s).take j).reverse) ((j + 1 : Nat) : Int) = barrowref02_Match.l1 k x0 s (rowOf (bt x0 i :: p) (bytesOf s) (s.size + 1)) (wrap64 ((i : Int) + 1)) := by
      intro nx' h1 h2 h3
      rw [hnext]
      refine rmatch_l2 x0 s p i hi hs d (j + 1) k nx' (by omega) ⟨h1, fun q hq => ?_⟩ fun q hq => by rw [h2 q (by omega)]; exact hf q (by omega)
      by_cases e : q = j
      · subst e; exact h3
      · rw [h2 q e]; exact hn.2 q (by omega)
    have put : ∀ b, b = fitR (bt x0 i :: p) ((bytesOf s).take j).reverse →
        barrowref02_Match.l2 (k + 2 * d + 1) x0 s (rowOf p (bytesOf s) (s.size + 1)) i (nx.set ((j : Int)).toNat b) (fitR (42 :: p) ((bytesOf s).take j).reverse) ((j + 1 : Nat) : Int) = barrowref02_Match.l1 k x0 s (rowOf (bt x0 i :: p) (bytesOf s) (s.size + 1)) (wrap64 ((i : Int) + 1)) := by
      intro b hb
      rw [setnat]
      refine fin (nx.set j b) (by rw [List.length_set]; exact hnl) (fun q hq => ?_) ?_
      · rw [List.getD_eq_getElem?_getD, List.getElem?_set, if_neg (fun e => hq e.symm), ← List.getD_eq_getElem?_getD]
      · rw [List.getD_eq_getElem?_getD, List.getElem?_set, if_pos rfl, if_pos (by omega), ← hb]; rfl
    have leave : fitR (bt x0 i :: p) ((bytesOf s).take j).reverse = false →
        barrowref02_Match.l2 (k + 2 * d + 1) x0 s (rowOf p (bytesOf s) (s.size + 1)) i nx (fitR (42 :: p) ((bytesOf s).take j).reverse) ((j + 1 : Nat) : Int) = barrowref02_Match.l1 k x0 s (rowOf (bt x0 i :: p) (bytesOf s) (s.size + 1)) (wrap64 ((i : Int) + 1)) :=
      fun h => fin nx hnl (fun _ _ => rfl) (by rw [h]; exact hf j (Nat.le_refl _))
    rw [hnl]
    by_cases h42 : bt x0 i = 42
    · rw [if_pos h42, if_pos (by omega), if_pos (by omega)]
      exact put _ (by rw [h42])
    · rw [if_neg h42]
      have hcell : fitR (bt x0 i :: p) ((bytesOf s).take j).reverse = (decide (0 < j) && (rowOf p (bytesOf s) (s.size + 1)).getD (j - 1) false && fitsB (bt x0 i) (bt s ((j : Int) - 1))) := by
        rw [← hcd]; unfold cellN; rw [if_neg h42]
      by_cases h2 : 0 < j
      · have hw2 : wrap64 ((j : Int) - 1) = ((j - 1 : Nat) : Int) := by unfold wrap64; omega
        rw [decide_eq_true h2, Bool.true_and] at hcell
        rw [if_pos (by clear hw2; omega), hw2, hlen, if_pos (by clear hw2; omega), if_pos (by clear hw2; omega), rdOf_nat]
        clear hw2
        by_cases h3 : (rowOf p (bytesOf s) (s.size + 1)).getD (j - 1) false = true
        · rw [h3, Bool.true_and] at hcell
          rw [if_pos h3, if_pos (by omega), rfits_eq, Option.bind_some, show (((j - 1 : Nat) : Int)) = (j : Int) - 1 from by omega]
          by_cases h4 : fitsB (bt x0 i) (bt s ((j : Int) - 1)) = true
          · rw [if_pos h4, if_pos (by omega), if_pos (by omega)]
            exact put _ (by rw [hcell, h4])
          · rw [if_neg h4]
            exact leave (by rw [hcell]; simpa using h4)
        · have h3' : (rowOf p (bytesOf s) (s.size + 1)).getD (j - 1) false = false := by simpa using h3
          rw [h3', Bool.false_and] at hcell
          rw [if_neg h3]
          exact leave hcell
      · rw [if_neg (by omega)]
        exact leave (by rw [hcell, decide_eq_false h2]; rfl)
theorem rmatch_l1 (x0 s : ByteArray) (hs : s.size ≤ 24) (h0 : x0.size ≤ 48) : ∀ (d i k : Nat), i + d = x0.size → 60 * d < k →
    barrowref02_Match.l1 k x0 s (rowOf ((bytesOf x0).take i).reverse (bytesOf s) (s.size + 1)) i = some (fitR (bytesOf x0).reverse (bytesOf s).reverse, 0)
  | 0, i, k, hd, hk => by
    obtain ⟨k, rfl⟩ : ∃ m, k = m + 1 := ⟨k - 1, by omega⟩
    rw [barrowref02_Match.l1, if_neg (by omega), if_pos (by omega), rowOf_length, if_pos (by omega), rdOf_nat, rowOf_getD _ _ _ _ (by omega)]
    rw [List.take_of_length_le (by rw [bytesOf_length]; omega), List.take_of_length_le (by rw [bytesOf_length]; omega)]
  | d + 1, i, k, hd, hk => by
    obtain ⟨k, rfl⟩ : ∃ m, k = m + 2 * (s.size + 1) + 1 + 1 := ⟨k - (2 * (s.size + 1) + 2), by omega⟩
    have hw : wrap64 ((s.size : Int) + 1) = ((s.size + 1 : Nat) : Int) := by unfold wrap64; omega
    have hw2 : wrap64 ((i : Int) + 1) = ((i + 1 : Nat) : Int) := by unfold wrap64; omega
    have e2 := rmatch_l2 x0 s ((bytesOf x0).take i).reverse i (by clear hw hw2; omega) hs (s.size + 1) 0 k (List.replicate (s.size + 1) false) (by clear hw hw2; omega) ⟨by simp, fun i h => absurd h (by clear hw hw2; omega)⟩ (fun q _ => by
      rw [List.getD_eq_getElem?_getD, List.getElem?_replicate]; split <;> rfl)
    rw [barrowref02_Match.l1, if_pos (by clear hw hw2; omega), hw, if_pos (by clear hw hw2; omega), if_pos (by clear hw hw2; omega), show (((s.size + 1 : Nat) : Int)).toNat = s.size + 1 from rfl]
    refine (show _ = _ from e2).trans ?_
    rw [hw2, ← rmatch_l1 x0 s hs h0 d (i + 1) k (by clear hw hw2; omega) (by clear hw hw2; omega)]
    rw [take_succ_rev x0 (i + 1) (by clear hw hw2; omega) (by clear hw hw2; omega), show (((i + 1 : Nat) : Int) - 1) = i from by clear hw hw2; omega, Nat.add_sub_cancel]
theorem rgood_eq (s : ByteArray) (k : Nat) (hk : 48 < k) : barrowref02_Good.f k s = some ((checkL (bytesOf s)).2 == 0) := by
  unfold barrowref02_Good.f
  rw [PC.rcheck_eq s k hk]
  rfl
theorem rmatch_l0 (x0 s : ByteArray) (h0 : x0.size ≤ 48) (d : Nat) : ∀ (i k : Nat), i + d = x0.size → 4000 + d < k →
    barrowref02_Match.l0 k x0 s i = some (if ((bytesOf x0).drop i).all okPat = false then (false, 22) else if (checkL (bytesOf s)).2 = 0 then (fitR (bytesOf x0).reverse (bytesOf s).reverse, 0) else (false, 5)) := by
  induction d with
  | zero =>
    intro i k hd hk
    obtain ⟨k, rfl⟩ : ∃ m, k = m + 1 := ⟨k - 1, by omega⟩
    have : (bytesOf x0).drop i = [] := List.drop_eq_nil_of_le (by rw [bytesOf_length]; omega)
    rw [this, barrowref02_Match.l0, if_neg (by omega), rgood_eq s k (by omega), Option.bind_some, List.all_nil, if_neg (show ¬ (true = false) by decide)]
    by_cases hc : (checkL (bytesOf s)).2 = 0
    · have hs := chk_len _ hc
      rw [bytesOf_length] at hs
      have hw : wrap64 ((s.size : Int) + 1) = ((s.size + 1 : Nat) : Int) := by unfold wrap64; omega
      rw [if_pos (by simpa using hc), if_pos hc, hw, if_pos (by clear hw; omega), if_pos (by clear hw; omega), Option.bind_some, if_pos (by rw [List.length_replicate]; clear hw; omega)]
      rw [row_start s (bytesOf x0)]
      have e := rmatch_l1 x0 s hs h0 x0.size 0 k (by clear hw; omega) (by clear hw; omega)
      exact e
    · rw [if_neg (by simpa using hc), if_neg hc]
  | succ d ihd =>
    intro i k hd hk
    obtain ⟨k, rfl⟩ : ∃ m, k = m + 1 := ⟨k - 1, by omega⟩
    have hw : wrap64 ((i : Int) + 1) = ((i + 1 : Nat) : Int) := by unfold wrap64; omega
    have ih := ihd (i + 1) k (by omega) (by omega)
    rw [bytesOf_drop x0 i (by clear hw; omega), List.all_cons, barrowref02_Match.l0]
    rw [if_pos (by clear hw; omega), if_pos (by clear hw; omega), PC.rletter_eq, PC.rdigit_eq, PC.rmark_eq, hw, ih]
    clear hw ih ihd
    simp only [Option.bind_some]
    unfold okPat
    by_cases h1 : letterI (bt x0 i) = true
    · rw [if_pos h1, h1]; simp
    · have h1' : letterI (bt x0 i) = false := by simpa using h1
      rw [if_neg h1, h1']
      by_cases h2 : digitI (bt x0 i) = true
      · rw [if_pos h2, h2]; simp
      · have h2' : digitI (bt x0 i) = false := by simpa using h2
        rw [if_neg h2, h2']
        by_cases h3 : isMarkI (bt x0 i) = true
        · rw [if_pos h3, h3]; simp
        · have h3' : isMarkI (bt x0 i) = false := by simpa using h3
          rw [if_neg h3, h3']
          generalize bt x0 i = c
          by_cases h4 : c = 42
          · rw [if_pos h4]; simp [h4]
          · rw [if_neg h4]
            by_cases h5 : c = 63
            · rw [if_pos h5]; simp [h5]
            · rw [if_neg h5]
              by_cases h6 : c = 35
              · rw [if_pos h6]; simp [h6]
              · rw [if_neg h6]
                by_cases h7 : c = 64
                · rw [if_pos h7]; simp [h7]
                · rw [if_neg h7]; simp [h4, h5, h6, h7]
theorem rmatch_eq (p s : ByteArray) (k : Nat) (hk : 5000 < k) : barrowref02_Match.f k p s = some (matchL (bytesOf p) (bytesOf s)) := by
  unfold barrowref02_Match.f matchL
  rw [bytesOf_length]
  by_cases h : 48 < p.size
  · rw [if_pos (by omega), if_pos h]
  · rw [if_neg (by omega), if_neg h]
    have e := rmatch_l0 p s (by omega) p.size 0 k (by omega) (by omega)
    rw [List.drop_zero] at e
    exact e
end Go.Proofs.YtmicghhmbojkfaaGreatDoor.PM
