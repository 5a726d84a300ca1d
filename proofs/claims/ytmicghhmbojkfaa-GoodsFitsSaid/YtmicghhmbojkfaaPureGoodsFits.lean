/- GoodsFits: a pattern made from a SKU meets it, one without a star meets no longer one, one without a sign meets itself alone. For all texts and all lists of choices; no condition. -/
import Derived.Test.YtmicghhmbojkfaaGx7
import Derived.Test.YtmicghhmbojkfaaMat
namespace Go.Proofs.Ytmicghhmbojkfaa.Pure
open Go.RowKit Go.Proofs.Ytmicghhmbojkfaa.G Go.Proofs.YtmicghhmbojkfaaW.PrintWords Go.Proofs.YtmicghhmbojkfaaW.PrintLast

theorem starRow_self (f : List Int → Bool) (S : List Int) (h : f S = true) : starRow f S = true := by
  cases S with
  | nil => exact h
  | cons c t => simp only [starRow, h, Bool.true_or]
theorem fits_self (c : Int) (h : (letterI c || digitI c) = true ∨ isMarkI c = true) : fitsB c c = true ∧ c ≠ 42 ∧ okPat c = true := by
  have hc : (65 ≤ c ∧ c ≤ 90) ∨ (48 ≤ c ∧ c ≤ 57) ∨ c = 45 ∨ c = 46 := by
    unfold letterI digitI isMarkI at h; simp at h; omega
  refine ⟨?_, by omega, ?_⟩
  · unfold fitsB
    rw [if_neg (by omega), if_neg (by omega), if_neg (by omega)]; simp
  · unfold okPat
    rcases h with h | h
    · rw [h]; rfl
    · rw [h]; simp
/-- What a choice puts behind the pattern. -/
def choice (x14 c : Int) (star : Bool) : List Int × Bool :=
  if x14 = 1 then ([63], star)
  else if x14 = 2 ∧ digitI c = true then ([35], star)
  else if x14 = 2 ∧ letterI c = true then ([64], star)
  else if x14 = 3 then ([42], true)
  else if x14 = 4 then ([42, c], true)
  else ([c], star)
theorem choice_ok (x14 c : Int) (star : Bool) (hc : (letterI c || digitI c) = true ∨ isMarkI c = true) :
    (choice x14 c star).1.length ≤ 2 ∧ (∀ x ∈ (choice x14 c star).1, okPat x = true ∧ 0 ≤ x ∧ x ≤ 255) ∧
    ((choice x14 c star).2 = false → star = false ∧ ∃ x, (choice x14 c star).1 = [x] ∧ x ≠ 42) ∧
    ∀ Q S, fitR Q S = true → fitR ((choice x14 c star).1.reverse ++ Q) (c :: S) = true := by
  obtain ⟨f1, f2, f3⟩ := fits_self c hc
  have hr : 45 ≤ c ∧ c ≤ 90 := by
    unfold letterI digitI isMarkI at hc; simp at hc; omega
  unfold choice
  by_cases h1 : x14 = 1
  · rw [if_pos h1]
    refine ⟨by simp, by simp [okPat], fun h => ⟨h, 63, rfl, by omega⟩, fun Q S h => ?_⟩
    show fitR (63 :: Q) (c :: S) = true
    simp [fitR, h, fitsB]
  · rw [if_neg h1]
    by_cases h2 : x14 = 2 ∧ digitI c = true
    · rw [if_pos h2]
      refine ⟨by simp, by simp [okPat], fun h => ⟨h, 35, rfl, by omega⟩, fun Q S h => ?_⟩
      show fitR (35 :: Q) (c :: S) = true
      simp [fitR, h, fitsB, h2.2]
    · rw [if_neg h2]
      by_cases h3 : x14 = 2 ∧ letterI c = true
      · rw [if_pos h3]
        refine ⟨by simp, by simp [okPat], fun h => ⟨h, 64, rfl, by omega⟩, fun Q S h => ?_⟩
        show fitR (64 :: Q) (c :: S) = true
        simp [fitR, h, fitsB, h3.2]
      · rw [if_neg h3]
        by_cases h4 : x14 = 3
        · rw [if_pos h4]
          refine ⟨by simp, by simp [okPat], fun h => by simp at h, fun Q S h => ?_⟩
          show fitR (42 :: Q) (c :: S) = true
          simp [fitR, starRow, starRow_self _ S h]
        · rw [if_neg h4]
          by_cases h5 : x14 = 4
          · rw [if_pos h5]
            refine ⟨by simp, ?_, fun h => by simp at h, fun Q S h => ?_⟩
            · intro x hx
              simp only [List.mem_cons, List.not_mem_nil, or_false] at hx
              rcases hx with rfl | rfl
              · simp [okPat]
              · exact ⟨f3, by omega, by omega⟩
            show fitR (c :: 42 :: Q) (c :: S) = true
            simp [fitR, f2, f1, starRow_self _ S h]
          · rw [if_neg h5]
            refine ⟨by simp, ?_, fun h => ⟨h, c, rfl, f2⟩, fun Q S h => ?_⟩
            · intro x hx
              simp only [List.mem_cons, List.not_mem_nil, or_false] at hx
              subst hx
              exact ⟨f3, by omega, by omega⟩
            show fitR (c :: Q) (c :: S) = true
            simp [fitR, f2, f1, h]
theorem fits_step (l1 : List Int) (x2 s : ByteArray) (P : List Int) (star : Bool) (i k : Nat) (hi : i < s.size) (hs : s.size ≤ 24) (hP : P.length ≤ 100) :
    ∃ x14 k', k ≤ k' ∧ barrowlaw02_GoodsFits.l0 (k + 4) l1 x2 s P star i = barrowlaw02_GoodsFits.l0 k' l1 x2 s (P ++ (choice x14 (bt s i) star).1) (choice x14 (bt s i) star).2 ((i + 1 : Nat) : Int) := by
  have hw : wrap64 ((i : Int) + 1) = ((i + 1 : Nat) : Int) := by unfold wrap64; omega
  have h0 : ∃ x14, barrowlaw02_GoodsFits.l0 (k + 4) l1 x2 s P star i = barrowlaw02_GoodsFits.j3 (k + 3) l1 x2 s P star i x14 := by
    simp only [barrowlaw02_GoodsFits.l0]
    rw [if_pos (by omega)]
    split
    · rw [if_pos (by omega)]; exact ⟨_, rfl⟩
    · exact ⟨_, rfl⟩
  obtain ⟨x14, h0⟩ := h0
  refine ⟨x14, ?_⟩
  rw [h0]
  by_cases h1 : x14 = 1
  · refine ⟨k + 2, by omega, ?_⟩
    have e : choice x14 (bt s i) star = ([63], star) := by unfold choice; rw [if_pos h1]
    rw [e]
    simp only [barrowlaw02_GoodsFits.j3]
    rw [if_pos (by omega), if_pos (by omega), if_pos h1, if_pos (by omega), hw]
  · have h3 : barrowlaw02_GoodsFits.j3 (k + 3) l1 x2 s P star i x14 = barrowlaw02_GoodsFits.j4 (k + 2) l1 x2 s P star i x14 (bt s i) (decide (x14 = 2) && digitI (bt s i)) := by
      simp only [barrowlaw02_GoodsFits.j3]
      rw [if_pos (by omega), if_pos (by omega), if_neg h1]
      unfold digitI
      by_cases h2 : x14 = 2
      · rw [if_pos h2]
        by_cases a : bt s i ≥ 48
        · rw [if_pos a]; have a' : 48 ≤ bt s i := a; simp [h2, a']
        · rw [if_neg a]; have a' : ¬ 48 ≤ bt s i := a; simp [a']
      · rw [if_neg h2]; simp [h2]
    rw [h3]
    by_cases h2 : x14 = 2 ∧ digitI (bt s i) = true
    · refine ⟨k + 1, by omega, ?_⟩
      have e : choice x14 (bt s i) star = ([35], star) := by unfold choice; rw [if_neg h1, if_pos h2]
      rw [e]
      simp only [barrowlaw02_GoodsFits.j4]
      rw [if_pos (by simp [h2.1, h2.2]), if_pos (by omega), hw]
    · have h4 : barrowlaw02_GoodsFits.j4 (k + 2) l1 x2 s P star i x14 (bt s i) (decide (x14 = 2) && digitI (bt s i)) = barrowlaw02_GoodsFits.j5 (k + 1) l1 x2 s P star i x14 (bt s i) (decide (x14 = 2) && letterI (bt s i)) := by
        simp only [barrowlaw02_GoodsFits.j4]
        rw [if_neg (by simpa using h2)]
        unfold letterI
        by_cases h2 : x14 = 2
        · rw [if_pos h2]
          by_cases a : bt s i ≥ 65
          · rw [if_pos a]; have a' : 65 ≤ bt s i := a; simp [h2, a']
          · rw [if_neg a]; have a' : ¬ 65 ≤ bt s i := a; simp [a']
        · rw [if_neg h2]; simp [h2]
      rw [h4]
      refine ⟨k, by omega, ?_⟩
      simp only [barrowlaw02_GoodsFits.j5]
      unfold choice
      rw [if_neg h1, if_neg h2]
      by_cases h5 : x14 = 2 ∧ letterI (bt s i) = true
      · rw [if_pos (by simp [h5.1, h5.2]), if_pos (by omega), hw, if_pos h5]
      · rw [if_neg (by simpa using h5), if_neg h5]
        by_cases h6 : x14 = 3
        · rw [if_pos h6, if_pos h6, if_pos (by omega), hw]
        · rw [if_neg h6, if_neg h6]
          by_cases h7 : x14 = 4
          · rw [if_pos h7, if_pos h7, Option.bind_some, if_pos (by simp; omega), hw]
          · rw [if_neg h7, if_neg h7, if_pos (by omega), hw]
theorem fit_len (p : List Int) : ∀ t, (∀ x ∈ p, x ≠ 42) → fitR p t = true → t.length = p.length := by
  induction p with
  | nil => intro t _ h; simp [fitR] at h; simp [h]
  | cons d p ih =>
    intro t hp h
    have hd : d ≠ 42 := hp d (by simp)
    simp only [fitR, if_neg hd] at h
    cases t with
    | nil => simp at h
    | cons c t' =>
      simp only [Bool.and_eq_true] at h
      simp [ih t' (fun x hx => hp x (by simp [hx])) h.1]
theorem fit_plain (p : List Int) : ∀ t, (∀ x ∈ p, (letterI x || digitI x) = true ∨ isMarkI x = true) → fitR p t = (p == t) := by
  induction p with
  | nil => intro t _; cases t <;> rfl
  | cons d p ih =>
    intro t hp
    have hd := hp d (by simp)
    obtain ⟨_, h42, _⟩ := fits_self d hd
    have hr : 45 ≤ d ∧ d ≤ 90 ∧ d ≠ 63 ∧ d ≠ 64 := by
      unfold letterI digitI isMarkI at hd; simp at hd; omega
    simp only [fitR, if_neg h42]
    cases t with
    | nil => rfl
    | cons c t' =>
      have hf : fitsB d c = (d == c) := by
        unfold fitsB; rw [if_neg (by omega), if_neg (by omega), if_neg (by omega)]
      show (fitR p t' && fitsB d c) = _
      rw [ih t' (fun x hx => hp x (by simp [hx])), hf]
      show (p == t' && d == c) = (d == c && p == t')
      exact Bool.and_comm _ _
theorem bytesOf_app (a b : ByteArray) : bytesOf (a ++ b) = bytesOf a ++ bytesOf b := by
  unfold bytesOf
  simp
theorem fits_j7 (x2 s : ByteArray) (hs : (checkL (bytesOf s)).2 = 0) (k : Nat) (hk : 1800 < k) : barrowlaw02_GoodsFits.j7 k x2 s = some true := by
  obtain ⟨k, rfl⟩ : ∃ m, k = m + 1 := ⟨k - 1, by omega⟩
  obtain ⟨s1, s2⟩ := (sku_iff _).1 hs
  have key : ∀ t : ByteArray, (checkL (bytesOf t)).2 = 0 → goods_Match.f k s t = some (s.toList == t.toList, 0) := by
    intro t ht
    rw [match_eq s t k (by omega)]
    unfold matchL
    rw [if_neg (by omega), if_neg (by
      have : (bytesOf s).all okPat = true := List.all_eq_true.2 (fun x hx => (fits_self x (ok_bytes s2 x hx)).2.2)
      rw [this]; simp), if_pos ht, fit_plain _ _ (fun x hx => ok_bytes s2 x (by simpa using hx))]
    congr 2
    rw [Bool.eq_iff_iff]
    simp only [beq_iff_eq, List.reverse_inj]
    rw [ByteArray.toList_eq, ByteArray.toList_eq]
    constructor
    · intro h; rw [bytesOf_inj h]
    · intro h; unfold bytesOf; rw [h]
  simp only [barrowlaw02_GoodsFits.j7]
  obtain ⟨t, e, hc, _, h2⟩ := clean_some x2
  rw [hc, Option.bind_some]
  by_cases he : e = 0
  · rw [if_pos he, key t (h2 he), Option.bind_some]
    simp
  · rw [if_neg he, key _ (by kernel_rfl), Option.bind_some]
    have : (⟨#[65, 66, 45, 49, 50, 46, 88]⟩ : ByteArray).toList = [65, 66, 45, 49, 50, 46, 88] := by rw [ByteArray.toList_eq]
    rw [this]
    simp
theorem fits_l0 (l1 : List Int) (x2 s : ByteArray) (hs : (checkL (bytesOf s)).2 = 0) (B : Nat) (hB : 2000 < B) (d : Nat) : ∀ (i k : Nat) (P : List Int) (star : Bool), i + d = s.size → B + 4 * d < k → P.length ≤ 2 * i →
    (∀ x ∈ P, okPat x = true ∧ 0 ≤ x ∧ x ≤ 255) → fitR P.reverse ((bytesOf s).take i).reverse = true → (star = false → P.length = i ∧ ∀ x ∈ P, x ≠ 42) → barrowlaw02_GoodsFits.l0 k l1 x2 s P star i = some true := by
  obtain ⟨s1, s2⟩ := (sku_iff _).1 hs
  rw [bytesOf_length] at s1
  induction d with
  | zero =>
    intro i k P star hi hk hP hok hfit hstar
    obtain ⟨k, rfl⟩ : ∃ m, k = m + 3 := ⟨k - 3, by omega⟩
    have hb : bytesOf (strOfNums P) = P := bytesOf_str P (fun c hc => (hok c hc).2)
    have hall : P.all okPat = true := List.all_eq_true.2 (fun x hx => (hok x hx).1)
    rw [List.take_of_length_le (by rw [bytesOf_length]; omega)] at hfit
    have hm : ∀ k, 1700 < k → goods_Match.f k (strOfNums P) s = some (true, 0) := by
      intro k hk
      rw [match_eq _ _ k hk, hb]
      unfold matchL
      rw [if_neg (by omega), if_neg (by rw [hall]; simp), if_pos hs, hfit]
    simp only [barrowlaw02_GoodsFits.l0]
    rw [if_neg (by omega), hm (k + 2) (by omega), Option.bind_some, if_pos rfl]
    simp only [barrowlaw02_GoodsFits.j6]
    rw [if_neg (by decide)]
    by_cases h24 : (s.size : Int) < 24
    · rw [if_pos h24]
      have hsz : (strOfNums P).size = P.length := by rw [← bytesOf_length, hb]
      rw [if_pos (by rw [hsz]; omega), match_eq _ _ (k + 1) (by omega), Option.bind_some]
      have hb2 : bytesOf (strOfNums P ++ (⟨#[63]⟩ : ByteArray)) = P ++ [63] := by rw [bytesOf_app, hb]; rfl
      rw [hb2]
      cases star with
      | true => rw [if_pos rfl]; exact fits_j7 x2 s hs _ (by omega)
      | false =>
        rw [if_neg (by decide)]
        obtain ⟨p1, p2⟩ := hstar rfl
        have hml : matchL (P ++ [63]) (bytesOf s) = (false, 0) := by
          unfold matchL
          rw [if_neg (by simp; omega), if_neg (by simp [hall, okPat]), if_pos hs]
          have : fitR (P ++ [63]).reverse (bytesOf s).reverse = false := by
            cases hf : fitR (P ++ [63]).reverse (bytesOf s).reverse with
            | false => rfl
            | true =>
              have := fit_len _ _ (by intro x hx; simp at hx; rcases hx with rfl | hx; omega; exact p2 x hx) hf
              simp [bytesOf_length] at this
              omega
          rw [this]
        rw [hml, if_neg (by decide), if_pos rfl]
        exact fits_j7 x2 s hs _ (by omega)
    · rw [if_neg h24]
      exact fits_j7 x2 s hs _ (by omega)
  | succ d ih =>
    intro i k P star hi hk hP hok hfit hstar
    obtain ⟨k, rfl⟩ : ∃ m, k = m + 4 := ⟨k - 4, by omega⟩
    obtain ⟨x14, k', hk', e⟩ := fits_step l1 x2 s P star i k (by omega) (by omega) (by omega)
    have hc := ok_bytes s2 _ (bt_mem s i (by omega))
    obtain ⟨c1, c2, c3, c4⟩ := choice_ok x14 (bt s i) star hc
    rw [e]
    refine ih (i + 1) k' _ _ (by omega) (by omega) (by simp; omega) ?_ ?_ ?_
    · intro x hx
      rcases List.mem_append.1 hx with hx | hx
      · exact hok x hx
      · exact c2 x hx
    · rw [List.reverse_append, take_succ_rev s (i + 1) (by omega) (by omega), show (((i + 1 : Nat) : Int) - 1) = i from by omega, Nat.add_sub_cancel]
      exact c4 _ _ hfit
    · intro h
      obtain ⟨h1, x, h2, h3⟩ := c3 h
      obtain ⟨p1, p2⟩ := hstar h1
      rw [h2]
      refine ⟨by simp [p1], fun y hy => ?_⟩
      rcases List.mem_append.1 hy with hy | hy
      · exact p2 y hy
      · simp at hy; rw [hy]; exact h3

theorem GoodsFits : barrowlaw02_GoodsFits.Pure := by
  intro a0 l1 a2 _ _ _ _ _
  have key : ∀ s : ByteArray, (checkL (bytesOf s)).2 = 0 → barrowlaw02_GoodsFits.j1 4999 l1 a2 s = some true := by
    intro s hs
    obtain ⟨s1, _⟩ := (sku_iff _).1 hs
    rw [bytesOf_length] at s1
    simp only [barrowlaw02_GoodsFits.j1]
    have e := fits_l0 l1 a2 s hs 2001 (by omega) s.size 0 4998 [] false (by omega) (by omega) (by simp) (by simp) (by simp [fitR]) (by simp)
    exact e
  have h0 : goods_Match.f 5000 (⟨#[64, 63, 42]⟩ : ByteArray) (⟨#[65, 66]⟩ : ByteArray) = some (true, 0) := by
    rw [match_eq _ _ _ (by omega)]
    kernel_rfl
  refine ⟨5000, ?_⟩
  unfold barrowlaw02_GoodsFits.f
  rw [h0, Option.bind_some, if_pos rfl]
  simp only [barrowlaw02_GoodsFits.j0]
  rw [if_neg (by decide)]
  obtain ⟨t, e, hc, _, h2⟩ := clean_some a0
  rw [hc, Option.bind_some]
  by_cases he : e = 0
  · rw [if_pos he]
    exact key t (h2 he)
  · rw [if_neg he]
    exact key _ (by kernel_rfl)
end Go.Proofs.Ytmicghhmbojkfaa.Pure
