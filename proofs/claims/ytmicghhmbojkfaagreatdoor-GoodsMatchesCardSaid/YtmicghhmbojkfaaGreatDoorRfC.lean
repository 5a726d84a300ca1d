/- What the reference's Check and Clean answer: what the program's do. -/
import Derived.Test.YtmicghhmbojkfaaGreatDoorGx19
import Derived.Test.YtmicghhmbojkfaaGreatDoorGx18
import Derived.Test.YtmicghhmbojkfaaGreatDoorSku
namespace Go.Proofs.YtmicghhmbojkfaaGreatDoor.PC
open Go.Proofs.YtmicghhmbojkfaaGreatDoor.G hiding bytesOf_length
open Go.RowKit Go.Proofs.YtmicghhmbojkfaaGreatDoorW.PrintWords Go.Proofs.YtmicghhmbojkfaaGreatDoorW.PrintLast
theorem rletter_eq (c : Int) : barrowref02_letter.f c = some (letterI c) := by
  unfold barrowref02_letter.f letterI
  by_cases h : c ≥ 65
  · rw [if_pos h]; simp; omega
  · rw [if_neg h]; simp; omega
theorem rdigit_eq (c : Int) : barrowref02_digit.f c = some (digitI c) := by
  unfold barrowref02_digit.f digitI
  by_cases h : c ≥ 48
  · rw [if_pos h]; simp; omega
  · rw [if_neg h]; simp; omega
theorem rmark_eq (c : Int) : barrowref02_mark.f c = some (isMarkI c) := by
  unfold barrowref02_mark.f isMarkI
  by_cases h45 : c = 45
  · rw [if_pos h45]; simp [h45]
  · rw [if_neg h45]; simp [h45]; rfl
theorem stands_eq (s : ByteArray) (hs : s.size ≤ 24) (i : Nat) (hi : i < s.size) (k : Nat) :
    barrowref02_stands.f (k + 1) s i = some ((letterI (bt s i) || digitI (bt s i)) || (isMarkI (bt s i) && !(decide (i = 0) || isMarkI (bt s ((i : Int) - 1))) && !((bytesOf s).drop (i + 1)).isEmpty)) := by
  have hw2 : wrap64 ((i : Int) - 1) = (i : Int) - 1 := by unfold wrap64; omega
  have hw3 : wrap64 ((s.size : Int) - 1) = (s.size : Int) - 1 := by unfold wrap64; omega
  have hemp : ((bytesOf s).drop (i + 1)).isEmpty = decide (i + 1 = s.size) := by
    rw [Bool.eq_iff_iff, List.isEmpty_iff, decide_eq_true_eq, List.drop_eq_nil_iff, bytesOf_length]; omega
  have hj : ∀ b, barrowref02_stands.j0 (k + 1) s i (bt s i) b = some (b || (isMarkI (bt s i) && !(decide (i = 0) || isMarkI (bt s ((i : Int) - 1))) && !((bytesOf s).drop (i + 1)).isEmpty)) := by
    intro b
    rw [barrowref02_stands.j0, hw2, hw3, rmark_eq, rmark_eq, hemp]
    clear hw2 hw3
    cases b with
    | true => simp
    | false =>
      rw [if_neg (by decide), Option.bind_some]
      by_cases hm : isMarkI (bt s i) = true
      · rw [if_pos hm, hm]
        by_cases h0 : i = 0
        · subst h0; simp
        · rw [if_neg (by omega)]
          by_cases h1 : i + 1 = s.size
          · rw [if_pos (by omega)]; simp [h1]
          · rw [if_neg (by omega), if_pos (by omega), if_pos (by omega)]; simp [h0, h1]
      · rw [if_neg hm]
        have hm' : isMarkI (bt s i) = false := by simpa using hm
        simp [hm']
  rw [barrowref02_stands.f, if_pos (by omega), if_pos (by omega), rletter_eq, rdigit_eq, Option.bind_some, Option.bind_some, hj, hj]
  by_cases hl : letterI (bt s i) = true
  · rw [if_pos hl, hl]; simp
  · rw [if_neg hl]
    have hl' : letterI (bt s i) = false := by simpa using hl
    rw [hl', Bool.false_or]
theorem rcheck_l0 (s : ByteArray) (hs : s.size ≤ 24) : ∀ (d i k : Nat), i + d = s.size → d + 1 < k →
    barrowref02_Check.l0 k s i = some (checkGo (decide (i = 0) || isMarkI (bt s ((i : Int) - 1))) i ((bytesOf s).drop i))
  | 0, i, k, hd, hk => by
    obtain ⟨k, rfl⟩ : ∃ m, k = m + 1 := ⟨k - 1, by omega⟩
    have : (bytesOf s).drop i = [] := List.drop_eq_nil_of_le (by rw [bytesOf_length]; omega)
    rw [this, barrowref02_Check.l0, if_neg (by omega)]
    rfl
  | d + 1, i, k, hd, hk => by
    obtain ⟨k, rfl⟩ : ∃ m, k = m + 2 := ⟨k - 2, by omega⟩
    have ih := rcheck_l0 s hs d (i + 1) (k + 1) (by omega) (by omega)
    have hw1 : wrap64 ((i : Int) + 1) = ((i + 1 : Nat) : Int) := by unfold wrap64; omega
    have hdec : decide ((i + 1) = 0) = false := by simp
    rw [hdec, Bool.false_or, show (((i + 1 : Nat) : Int) - 1) = i from by clear hw1; omega] at ih
    rw [barrowref02_Check.l0, if_pos (by clear hw1; omega), stands_eq s hs i (by omega), Option.bind_some, hw1, ih, bytesOf_drop s i (by omega)]
    have hmf : (letterI (bt s i) || digitI (bt s i)) = true → isMarkI (bt s i) = false := by
      intro h
      unfold letterI digitI at h
      unfold isMarkI
      simp at h ⊢
      clear hw1
      omega
    rw [checkGo]
    by_cases hl : (letterI (bt s i) || digitI (bt s i)) = true
    · rw [if_pos (by rw [hl]; rfl), if_pos hl, hmf hl]; rfl
    · have hl' : (letterI (bt s i) || digitI (bt s i)) = false := by simpa using hl
      rw [if_neg hl, hl', Bool.false_or]
      by_cases hc : (isMarkI (bt s i) && !(decide (i = 0) || isMarkI (bt s ((i : Int) - 1))) && !((bytesOf s).drop (i + 1)).isEmpty) = true
      · rw [if_pos hc, if_pos hc]
        have : isMarkI (bt s i) = true := by simp at hc; exact hc.1.1
        rw [this]; rfl
      · rw [if_neg hc, if_neg hc]
theorem rcheck_eq (s : ByteArray) (k : Nat) (hk : 48 < k) : barrowref02_Check.f k s = some (checkL (bytesOf s)) := by
  unfold barrowref02_Check.f checkL
  by_cases h0 : bytesOf s = []
  · have : s.size = 0 := by rw [← bytesOf_length, h0]; rfl
    rw [if_pos (by omega), if_pos h0]
  · have : s.size ≠ 0 := by intro e; exact h0 (List.length_eq_zero_iff.1 (by rw [bytesOf_length]; exact e))
    rw [if_neg (by omega), if_neg h0, bytesOf_length]
    by_cases h24 : 24 < s.size
    · rw [if_pos (by omega), if_pos h24]
    · rw [if_neg (by omega), if_neg h24]
      have := rcheck_l0 s (by omega) s.size 0 k (by omega) (by omega)
      simpa using this

/-- Clean's loop over numbers. -/
def goI : List Int → List Int → Int → List Int
  | [], out, _ => out
  | c :: t, out, m =>
    if c = 46 then goI t out 46
    else if c = 32 ∨ c = 9 ∨ c = 95 ∨ c = 47 ∨ c = 45 then goI t out (if m = 0 then 45 else m)
    else goI t ((if m = 0 then out else out ++ [m]) ++ [if 97 ≤ c ∧ c ≤ 122 then c - 32 else c]) 0
theorem go_goI (l : List UInt8) : ∀ out m, cleanGo l out m = goI (l.map fun b => (b.toNat : Int)) out m := by
  induction l with
  | nil => intro out m; rfl
  | cons c t ih => intro out m; simp only [cleanGo, List.map_cons, goI, ih]
theorem cleanOut_eq (s : ByteArray) : cleanOut s = strOfNums (dropMark (goI (bytesOf s) [] 0)) := by
  unfold cleanOut; rw [go_goI]; rfl
def isJ (c : Int) : Bool := decide (c = 46 ∨ c = 32 ∨ c = 9 ∨ c = 95 ∨ c = 47 ∨ c = 45)
theorem goI_run (r : List Int) (hr : ∀ x ∈ r, isJ x = true) : ∀ (u out : List Int) (m : Int), (m = 0 ∨ m = 45 ∨ m = 46) →
    goI (r ++ u) out m = goI u out (if 46 ∈ r ∨ m = 46 then 46 else if r = [] then m else 45) := by
  induction r with
  | nil =>
    intro u out m hm
    by_cases h : m = 46 <;> simp [h]
  | cons c t ih =>
    intro u out m hm
    have hc := hr c (by simp)
    simp only [isJ, decide_eq_true_eq] at hc
    have iht := ih (fun x hx => hr x (by simp [hx]))
    simp only [List.cons_append, goI]
    by_cases h46 : c = 46
    · rw [if_pos h46, iht u out 46 (by simp)]
      subst h46
      simp
    · rw [if_neg h46, if_pos (by omega), iht u out _ (by split <;> omega)]
      by_cases hm0 : m = 0
      · subst hm0
        simp only [if_true]
        by_cases ht : (46 : Int) ∈ t
        · simp [ht]
        · have : ¬ ((46 : Int) = c) := fun e => h46 e.symm
          simp [ht, this]
      · rw [if_neg hm0]
        by_cases ht : (46 : Int) ∈ t
        · simp [ht]
        · have : ¬ ((46 : Int) = c) := fun e => h46 e.symm
          rcases hm with rfl | rfl | rfl
          · omega
          · simp [ht, this]
          · simp
theorem goI_pre (l : List Int) : ∀ (p out : List Int) (m : Int), goI l (p ++ out) m = p ++ goI l out m := by
  induction l with
  | nil => intro p out m; rfl
  | cons c t ih =>
    intro p out m
    rw [goI, goI]
    by_cases h1 : c = 46
    · rw [if_pos h1, if_pos h1, ih]
    · rw [if_neg h1, if_neg h1]
      by_cases h2 : c = 32 ∨ c = 9 ∨ c = 95 ∨ c = 47 ∨ c = 45
      · rw [if_pos h2, if_pos h2, ih]
      · rw [if_neg h2, if_neg h2]
        by_cases h3 : m = 0
        · rw [if_pos h3, if_pos h3, List.append_assoc, ih]
        · rw [if_neg h3, if_neg h3, List.append_assoc, List.append_assoc, ih, List.append_assoc]
def up (c : Int) : Int := if 97 ≤ c ∧ c ≤ 122 then c - 32 else c
theorem goI_cons {c : Int} (h : isJ c = false) (t out : List Int) (m : Int) : goI (c :: t) out m = goI t ((if m = 0 then out else out ++ [m]) ++ [up c]) 0 := by
  simp only [isJ, decide_eq_false_iff_not, not_or] at h
  rw [goI, if_neg h.1, if_neg (by omega)]; rfl
theorem goI_mark {c : Int} (h : isJ c = false) (t out : List Int) (m : Int) (hm : m ≠ 0) : goI (c :: t) out m = goI (c :: t) (out ++ [m]) 0 := by
  rw [goI_cons h, goI_cons h, if_neg hm, if_pos rfl]
theorem up_mark {c : Int} (h : isJ c = false) : isMarkI (up c) = false := by
  simp only [isJ, decide_eq_false_iff_not, not_or] at h
  unfold up isMarkI
  split <;> (simp only [decide_eq_false_iff_not]; omega)
theorem drop_no {c : Int} (h : isJ c = false) (t : List Int) : dropMark (goI (c :: t) [] 0) = goI (c :: t) [] 0 := by
  rw [goI_cons h, if_pos rfl, goI_pre t [] ([up c]) 0, List.nil_append]
  have := goI_pre t [up c] [] 0
  rw [List.append_nil] at this
  rw [this]
  show (if isMarkI (up c) then goI t [] 0 else up c :: goI t [] 0) = _
  rw [up_mark h]; rfl
theorem drop_yes {c : Int} (h : isJ c = false) (t : List Int) (m : Int) (hm : m = 45 ∨ m = 46) : dropMark (goI (c :: t) [] m) = goI (c :: t) [] 0 := by
  rw [goI_mark h _ _ _ (by omega), List.nil_append]
  have := goI_pre (c :: t) [m] [] 0
  rw [List.append_nil] at this
  rw [this]
  show (if isMarkI m then goI (c :: t) [] 0 else m :: goI (c :: t) [] 0) = _
  rw [if_pos (by unfold isMarkI; simpa using hm)]
theorem dash_eq (c : Int) : barrowref02_dash.f c = some (decide (c = 32 ∨ c = 9 ∨ c = 95 ∨ c = 47 ∨ c = 45)) := by
  unfold barrowref02_dash.f
  repeat' split
  all_goals simp_all
  rfl
/-- The mark that a run comes to. -/
def mk (r : List Int) (m : Int) : Int := if 46 ∈ r then 46 else m
theorem joint_l0 (s : ByteArray) (hs : s.size ≤ 96) : ∀ (d j k : Nat) (m : Int), j + d = s.size → 2 * d + 2 < k →
    barrowref02_joint.l0 k s j m = some (mk (((bytesOf s).drop j).takeWhile isJ) m, ((j + (((bytesOf s).drop j).takeWhile isJ).length : Nat) : Int))
  | 0, j, k, m, hj, hk => by
    obtain ⟨k, rfl⟩ : ∃ q, k = q + 2 := ⟨k - 2, by omega⟩
    have e : (bytesOf s).drop j = [] := List.drop_eq_nil_of_le (by rw [bytesOf_length]; omega)
    rw [barrowref02_joint.l0, if_neg (by omega), barrowref02_joint.j1, if_neg (by decide), e]; rfl
  | d + 1, j, k, m, hj, hk => by
    obtain ⟨k, rfl⟩ : ∃ q, k = q + 2 := ⟨k - 2, by omega⟩
    have hd := bytesOf_drop s j (by omega)
    have hw : wrap64 ((j : Int) + 1) = ((j + 1 : Nat) : Int) := by unfold wrap64; omega
    have hjn : barrowref02_joint.l0 (k + 2) s j m = barrowref02_joint.j1 (k + 1) s j m (isJ (bt s j)) := by
      rw [barrowref02_joint.l0, if_pos (by clear hw; omega), if_pos (by clear hw; omega), dash_eq, Option.bind_some]
      by_cases h : bt s j = 32 ∨ bt s j = 9 ∨ bt s j = 95 ∨ bt s j = 47 ∨ bt s j = 45
      · rw [if_pos (by simpa using h), show isJ (bt s j) = true from by unfold isJ; simp only [decide_eq_true_eq]; exact .inr h]
      · rw [if_neg (by simpa using h), show isJ (bt s j) = (bt s j == 46) from by
          unfold isJ
          by_cases h46 : bt s j = 46
          · simp [h46]
          · rw [show (bt s j == 46) = false from by simpa using h46]; simp only [decide_eq_false_iff_not, not_or] at h ⊢; exact ⟨h46, h⟩]
    rw [hjn, barrowref02_joint.j1, hd]
    by_cases h : isJ (bt s j) = true
    · rw [if_pos h, if_pos (by clear hw; omega), if_pos (by clear hw; omega), hw, List.takeWhile_cons_of_pos h, List.length_cons]
      by_cases h46 : bt s j = 46
      · rw [if_pos h46, joint_l0 s hs d (j + 1) k 46 (by omega) (by omega)]
        refine congrArg some (Prod.ext ?_ (by simp only; omega))
        have e1 : mk (bt s j :: ((bytesOf s).drop (j + 1)).takeWhile isJ) m = 46 := if_pos (by rw [h46]; simp)
        rw [e1]
        unfold mk
        split <;> rfl
      · rw [if_neg h46, joint_l0 s hs d (j + 1) k m (by omega) (by omega)]
        refine congrArg some (Prod.ext ?_ (by simp only; omega))
        unfold mk
        have : ¬ ((46 : Int) = bt s j) := fun e => h46 e.symm
        simp [this]
    · rw [if_neg h, List.takeWhile_cons_of_neg h]; rfl
/-- The end: Check on what is out. -/
def fin (o : List Int) : ByteArray × Int := if (checkL (bytesOf (strOfNums o))).2 = 0 then (strOfNums o, 0) else (⟨#[]⟩, (checkL (bytesOf (strOfNums o))).2)
theorem take_split (l : List Int) : l = l.takeWhile isJ ++ l.drop (l.takeWhile isJ).length := by
  conv => lhs; rw [← List.takeWhile_append_dropWhile (p := isJ) (l := l)]
  congr 1
  conv => rhs; rw [show l.drop (l.takeWhile isJ).length = (l.takeWhile isJ ++ l.dropWhile isJ).drop (l.takeWhile isJ).length from by rw [List.takeWhile_append_dropWhile]]
  rw [List.drop_left]
theorem run_isJ (l : List Int) : ∀ x ∈ l.takeWhile isJ, isJ x = true := by
  induction l with
  | nil => intro x hx; cases hx
  | cons c t ih =>
    intro x hx
    by_cases h : isJ c = true
    · rw [List.takeWhile_cons_of_pos h] at hx
      rcases List.mem_cons.1 hx with rfl | hx
      · exact h
      · exact ih x hx
    · rw [List.takeWhile_cons_of_neg h] at hx; cases hx
theorem head_no (l : List Int) {c : Int} {t : List Int} (h : l.drop (l.takeWhile isJ).length = c :: t) : isJ c = false := by
  induction l with
  | nil => cases h
  | cons a u ih =>
    by_cases ha : isJ a = true
    · rw [List.takeWhile_cons_of_pos ha, List.length_cons, List.drop_succ_cons] at h; exact ih h
    · rw [List.takeWhile_cons_of_neg ha] at h
      simp at h
      rw [← h.1]; simpa using ha
theorem run_len (s : ByteArray) (i : Nat) (hi : i ≤ s.size) : i + (((bytesOf s).drop i).takeWhile isJ).length ≤ s.size := by
  have := (List.takeWhile_prefix isJ (l := (bytesOf s).drop i)).length_le
  rw [List.length_drop, bytesOf_length] at this
  omega
theorem clean_j2_run (s : ByteArray) (hs : s.size ≤ 96) (i : Nat) (hi : i < s.size) (out : List Int) (k : Nat) (hk : 300 < k) : isJ (bt s i) = true →
    barrowref02_Clean.l1 (k + 2) s out i = barrowref02_Clean.j3 k s out (mk (((bytesOf s).drop i).takeWhile isJ) 45) ((i + (((bytesOf s).drop i).takeWhile isJ).length : Nat) : Int) (decide (0 < i) && decide (i + (((bytesOf s).drop i).takeWhile isJ).length < s.size)) := by
  intro h
  have e : barrowref02_Clean.l1 (k + 2) s out i = barrowref02_Clean.j2 (k + 1) s out i (bt s i) true := by
    rw [barrowref02_Clean.l1, if_pos (by omega), if_pos (by omega), dash_eq, Option.bind_some]
    by_cases h1 : bt s i = 32 ∨ bt s i = 9 ∨ bt s i = 95 ∨ bt s i = 47 ∨ bt s i = 45
    · rw [if_pos (by simpa using h1)]
    · rw [if_neg (by simpa using h1), show (bt s i == 46) = true from by
        simp only [isJ, decide_eq_true_eq] at h
        simpa using h.resolve_right h1]
  rw [e, barrowref02_Clean.j2, if_pos rfl, barrowref02_joint.f, joint_l0 s hs (s.size - i) i k 45 (by omega) (by omega), Option.bind_some]
  by_cases h0 : 0 < i
  · rw [if_pos (by omega), show decide (0 < i) = true from decide_eq_true h0, Bool.true_and]
    congr 1
    rw [Bool.eq_iff_iff, decide_eq_true_eq, decide_eq_true_eq]; omega
  · rw [if_neg (by omega), show decide (0 < i) = false from decide_eq_false h0, Bool.false_and]
theorem clean_no (s : ByteArray) (i : Nat) (hi : i < s.size) (hs : s.size ≤ 96) (out : List Int) (ho : out.length ≤ 96) (k : Nat) : isJ (bt s i) = false →
    barrowref02_Clean.l1 (k + 2) s out i = barrowref02_Clean.l1 k s (out ++ [up (bt s i)]) ((i + 1 : Nat) : Int) := by
  intro h
  simp only [isJ, decide_eq_false_iff_not, not_or] at h
  have hw : wrap64 ((i : Int) + 1) = ((i + 1 : Nat) : Int) := by unfold wrap64; omega
  rw [barrowref02_Clean.l1, if_pos (by clear hw; omega), if_pos (by clear hw; omega), dash_eq, Option.bind_some, if_neg (by simp only [decide_eq_true_eq]; clear hw; omega),
    show (bt s i == 46) = false from by simpa using h.1, barrowref02_Clean.j2, if_neg (by decide), hw]
  clear hw
  unfold up
  by_cases h1 : bt s i ≥ 97
  · rw [if_pos h1]
    by_cases h2 : bt s i ≤ 122
    · rw [if_pos h2, if_pos (by omega), if_pos ⟨h1, h2⟩, show (bt s i - 32) % 256 = bt s i - 32 from by omega]
    · rw [if_neg h2, if_pos (by omega), if_neg (by omega)]
  · rw [if_neg h1, if_pos (by omega), if_neg (by omega)]
theorem clean_end (s : ByteArray) (out : List Int) (i : Nat) (hi : s.size ≤ i) (k : Nat) (hk : 100 < k) : barrowref02_Clean.l1 k s out i = some (fin out) := by
  obtain ⟨k, rfl⟩ : ∃ q, k = q + 1 := ⟨k - 1, by omega⟩
  rw [barrowref02_Clean.l1, if_neg (by omega), rcheck_eq _ k (by omega), Option.bind_some]
  unfold fin
  split <;> rfl
theorem mk_is (r : List Int) : mk r 45 = 45 ∨ mk r 45 = 46 := by unfold mk; split <;> simp
theorem goI_takeWhile (l out : List Int) (h : l.takeWhile isJ ≠ []) : goI l out 0 = goI (l.drop (l.takeWhile isJ).length) out (mk (l.takeWhile isJ) 45) := by
  conv => lhs; rw [take_split l]
  rw [goI_run _ (run_isJ l) _ _ _ (.inl rfl)]
  unfold mk
  simp [h]
theorem drop_add (s : ByteArray) (i n : Nat) : ((bytesOf s).drop i).drop n = (bytesOf s).drop (i + n) := by rw [List.drop_drop]
theorem clean_l1 (s : ByteArray) (hs : s.size ≤ 96) : ∀ (n i k : Nat) (out : List Int), s.size - i ≤ n → 0 < i → i ≤ s.size → out.length ≤ i → 4 * n + 400 < k →
    barrowref02_Clean.l1 k s out i = some (fin (goI ((bytesOf s).drop i) out 0))
  | 0, i, k, out, hn, h0, hi, ho, hk => by
    rw [clean_end s out i (by omega) k (by omega), List.drop_eq_nil_of_le (by rw [bytesOf_length]; omega)]; rfl
  | n + 1, i, k, out, hn, h0, hi, ho, hk => by
    obtain ⟨k, rfl⟩ : ∃ q, k = q + 3 := ⟨k - 3, by omega⟩
    by_cases he : i = s.size
    · rw [clean_end s out i (by omega) _ (by omega), List.drop_eq_nil_of_le (by rw [bytesOf_length]; omega)]; rfl
    have hd := bytesOf_drop s i (by omega)
    by_cases h : isJ (bt s i) = true
    · have hl := run_len s i hi
      have hne : ((bytesOf s).drop i).takeWhile isJ ≠ [] := by rw [hd, List.takeWhile_cons_of_pos h]; simp
      have hpos : 0 < (((bytesOf s).drop i).takeWhile isJ).length := List.length_pos_iff.2 hne
      rw [show k + 3 = (k + 1) + 2 from rfl, clean_j2_run s hs i (by omega) out (k + 1) (by omega) h, barrowref02_Clean.j3, goI_takeWhile _ _ hne, drop_add]
      by_cases hj : i + (((bytesOf s).drop i).takeWhile isJ).length < s.size
      · rw [if_pos (by simp [h0, hj]), if_pos (by omega), clean_l1 s hs n (i + (((bytesOf s).drop i).takeWhile isJ).length) k (out ++ [mk (((bytesOf s).drop i).takeWhile isJ) 45]) (by omega) (by omega) (by omega) (by rw [List.length_append, List.length_singleton]; omega) (by omega)]
        have hd2 := bytesOf_drop s (i + (((bytesOf s).drop i).takeWhile isJ).length) hj
        rw [hd2, goI_mark (head_no ((bytesOf s).drop i) (by rw [drop_add]; exact hd2)) _ out (mk (((bytesOf s).drop i).takeWhile isJ) 45) (by have := mk_is (((bytesOf s).drop i).takeWhile isJ); omega)]
      · rw [if_neg (by simp [hj]), clean_end s out _ (by omega) k (by omega), List.drop_eq_nil_of_le (by rw [bytesOf_length]; omega)]; rfl
    · have h' : isJ (bt s i) = false := by simpa using h
      rw [show k + 3 = (k + 1) + 2 from rfl, clean_no s i (by omega) hs out (by omega) (k + 1) h', clean_l1 s hs n (i + 1) (k + 1) (out ++ [up (bt s i)]) (by omega) (by omega) (by omega) (by rw [List.length_append, List.length_singleton]; omega) (by omega), hd, goI_cons h', if_pos rfl]
theorem clean_l1_0 (s : ByteArray) (hs : s.size ≤ 96) (k : Nat) (hk : 1000 < k) : barrowref02_Clean.l1 k s [] 0 = some (fin (dropMark (goI (bytesOf s) [] 0))) := by
  obtain ⟨k, rfl⟩ : ∃ q, k = q + 3 := ⟨k - 3, by omega⟩
  by_cases he : s.size = 0
  · have e : bytesOf s = [] := List.length_eq_zero_iff.1 (by rw [bytesOf_length]; exact he)
    have := clean_end s [] 0 (by omega) (k + 3) (by omega)
    rw [e]; exact this
  have hd := bytesOf_drop s 0 (by omega)
  rw [List.drop_zero] at hd
  by_cases h : isJ (bt s (0 : Nat)) = true
  · have hl := run_len s 0 (by omega)
    have hne : (bytesOf s).takeWhile isJ ≠ [] := by rw [hd, List.takeWhile_cons_of_pos h]; simp
    have hpos : 0 < ((bytesOf s).takeWhile isJ).length := List.length_pos_iff.2 hne
    have hr := clean_j2_run s hs 0 (by omega) [] (k + 1) (by omega) h
    rw [List.drop_zero, Nat.zero_add] at hr hl
    refine (show barrowref02_Clean.l1 (k + 3) s [] 0 = _ from hr).trans ?_
    rw [barrowref02_Clean.j3, if_neg (by simp), clean_l1 s hs s.size ((bytesOf s).takeWhile isJ).length k [] (by omega) (by omega) hl (by simp) (by omega), goI_takeWhile _ _ hne]
    cases hc : (bytesOf s).drop ((bytesOf s).takeWhile isJ).length with
    | nil => rfl
    | cons c t => rw [drop_yes (head_no _ hc) _ _ (mk_is _)]
  · have h' : isJ (bt s (0 : Nat)) = false := by simpa using h
    have hr := clean_no s 0 (by omega) hs [] (by simp) (k + 1) h'
    refine (show barrowref02_Clean.l1 (k + 3) s [] 0 = _ from hr).trans ?_
    rw [clean_l1 s hs s.size (0 + 1) (k + 1) ([] ++ [up (bt s (0 : Nat))]) (by omega) (by omega) (by omega) (by simp) (by omega), hd, drop_no h', goI_cons h', if_pos rfl]; rfl
theorem clean_l0 (s : ByteArray) (hs : s.size ≤ 96) : ∀ (d i k : Nat), i + d = s.size → d + 2000 < k →
    barrowref02_Clean.l0 k s i = some (if ((bytesOf s).drop i).any (fun c => decide (128 ≤ c)) = true then (⟨#[]⟩, 22) else fin (dropMark (goI (bytesOf s) [] 0)))
  | 0, i, k, hd, hk => by
    obtain ⟨k, rfl⟩ : ∃ m, k = m + 1 := ⟨k - 1, by omega⟩
    have : (bytesOf s).drop i = [] := List.drop_eq_nil_of_le (by rw [bytesOf_length]; omega)
    rw [this, barrowref02_Clean.l0, if_neg (by omega), clean_l1_0 s hs k (by omega)]
    rfl
  | d + 1, i, k, hd, hk => by
    obtain ⟨k, rfl⟩ : ∃ m, k = m + 1 := ⟨k - 1, by omega⟩
    have hw : wrap64 ((i : Int) + 1) = ((i + 1 : Nat) : Int) := by unfold wrap64; omega
    rw [barrowref02_Clean.l0, if_pos (by clear hw; omega), if_pos (by clear hw; omega), bytesOf_drop s i (by omega), List.any_cons, hw]
    by_cases h : bt s i ≥ 128
    · rw [if_pos h, if_pos (by simp [show (128 : Int) ≤ bt s i from h])]
    · rw [if_neg h, clean_l0 s hs d (i + 1) k (by omega) (by omega), show decide ((128 : Int) ≤ bt s i) = false from by simpa using h, Bool.false_or]
theorem wide_eq (s : ByteArray) : wideByte s = (bytesOf s).any fun c => decide (128 ≤ c) := by
  unfold wideByte bytesOf
  rw [List.any_map]
  congr 1
  funext c
  simp only [Function.comp]
  rw [Bool.eq_iff_iff, decide_eq_true_eq, decide_eq_true_eq]
  omega
/-- The two Cleans answer alike. -/
theorem clean_same (s : ByteArray) : ∃ v : ByteArray × Int, goods_Clean.f s = some v ∧ ∀ k, 3000 < k → barrowref02_Clean.f k s = some v := by
  unfold goods_Clean.f barrowref02_Clean.f
  by_cases h : 96 < s.size
  · exact ⟨_, if_pos h, fun k _ => by rw [if_pos (by omega)]⟩
  · rw [if_neg h]
    refine ⟨if wideByte s = true then (⟨#[]⟩, 22) else fin (dropMark (goI (bytesOf s) [] 0)), ?_, fun k hk => ?_⟩
    · by_cases hw : wideByte s = true
      · rw [if_pos hw, if_pos hw]
      · rw [if_neg hw, if_neg hw, check_eq _ 100 (by omega), Option.bind_some, cleanOut_eq]
        unfold fin
        split <;> rfl
    · rw [if_neg (by omega), wide_eq]
      have := clean_l0 s (by omega) s.size 0 k (by omega) (by omega)
      rw [List.drop_zero] at this
      exact this
end Go.Proofs.YtmicghhmbojkfaaGreatDoor.PC
