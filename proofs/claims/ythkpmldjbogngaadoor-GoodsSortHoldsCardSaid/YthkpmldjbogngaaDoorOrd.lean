/- The natural order of texts in plain Lean: a text's key (bytes, and numbers by length and digits), compared place by place, then the bytes: a total order. -/
import Derived.Test.YthkpmldjbogngaaDoorSx0
namespace Go.Proofs.YthkpmldjbogngaaDoor.Ord
/-- Lists of numbers, place by place: -1, 0, 1. -/
def cmpL : List Int → List Int → Int
  | [], [] => 0
  | [], _ :: _ => -1
  | _ :: _, [] => 1
  | x :: s, y :: t => if x < y then -1 else if y < x then 1 else cmpL s t
theorem cmpL_cons (x y : Int) (s t : List Int) : cmpL (x :: s) (y :: t) = if x < y then -1 else if y < x then 1 else cmpL s t := by rw [cmpL]
theorem cmpL_anti : ∀ a b, cmpL b a = - cmpL a b
  | [], [] => by simp [cmpL]
  | [], _ :: _ => by simp [cmpL]
  | _ :: _, [] => by simp [cmpL]
  | x :: s, y :: t => by
    rw [cmpL_cons, cmpL_cons]
    by_cases h : x < y
    · simp [h, show ¬ y < x by omega]
    · by_cases h' : y < x
      · simp [h, h']
      · simp only [if_neg h, if_neg h']; exact cmpL_anti s t
theorem cmpL_zero : ∀ {a b}, cmpL a b = 0 ↔ a = b
  | [], [] => by simp [cmpL]
  | [], _ :: _ => by simp [cmpL]
  | _ :: _, [] => by simp [cmpL]
  | x :: s, y :: t => by
    rw [cmpL_cons, List.cons.injEq]
    by_cases h : x < y
    · rw [if_pos h]; constructor
      · intro h; simp at h
      · intro h'; omega
    · rw [if_neg h]
      by_cases h' : y < x
      · rw [if_pos h']; constructor
        · intro h; simp at h
        · intro h''; omega
      · rw [if_neg h', cmpL_zero]
        constructor
        · intro e; exact ⟨by omega, e⟩
        · intro e; exact e.2
theorem cmpL_range : ∀ a b, cmpL a b = -1 ∨ cmpL a b = 0 ∨ cmpL a b = 1
  | [], [] => by simp [cmpL]
  | [], _ :: _ => by simp [cmpL]
  | _ :: _, [] => by simp [cmpL]
  | x :: s, y :: t => by
    rw [cmpL_cons]
    by_cases h : x < y
    · rw [if_pos h]; simp
    · rw [if_neg h]
      by_cases h' : y < x
      · rw [if_pos h']; simp
      · rw [if_neg h']; exact cmpL_range s t
theorem cmpL_lt_trans : ∀ {a b c}, cmpL a b = -1 → cmpL b c = -1 → cmpL a c = -1
  | [], [], _ => by simp [cmpL]
  | [], _ :: _, [] => by simp [cmpL]
  | [], _ :: _, _ :: _ => by simp [cmpL]
  | _ :: _, [], _ => by simp [cmpL]
  | _ :: _, _ :: _, [] => by simp [cmpL]
  | x :: s, y :: t, z :: u => by
    rw [cmpL_cons, cmpL_cons, cmpL_cons]
    intro h1 h2
    by_cases a : x < y
    · by_cases b : y < z
      · rw [if_pos (by omega)]
      · rw [if_neg b] at h2
        by_cases b' : z < y
        · rw [if_pos b'] at h2; simp at h2
        · rw [if_pos (by omega)]
    · rw [if_neg a] at h1
      by_cases a' : y < x
      · rw [if_pos a'] at h1; simp at h1
      · rw [if_neg a'] at h1
        by_cases b : y < z
        · rw [if_pos (by omega)]
        · rw [if_neg b] at h2
          by_cases b' : z < y
          · rw [if_pos b'] at h2; simp at h2
          · rw [if_neg b'] at h2
            rw [if_neg (by omega), if_neg (by omega)]
            exact cmpL_lt_trans h1 h2
/-- First the keys, then the texts. -/
def cmp2 (x y : List Int × List Int) : Int := if cmpL x.1 y.1 = 0 then cmpL x.2 y.2 else cmpL x.1 y.1
theorem cmp2_anti (x y) : cmp2 y x = - cmp2 x y := by
  unfold cmp2
  rw [cmpL_anti x.1 y.1, cmpL_anti x.2 y.2]
  by_cases h : cmpL x.1 y.1 = 0
  · rw [if_pos h, if_pos (by omega)]
  · rw [if_neg h, if_neg (by omega)]
theorem cmp2_zero {x y} : cmp2 x y = 0 ↔ x = y := by
  unfold cmp2
  by_cases h : cmpL x.1 y.1 = 0
  · rw [if_pos h, cmpL_zero]
    rw [cmpL_zero] at h
    constructor
    · intro h2; exact Prod.ext h h2
    · rintro rfl; rfl
  · rw [if_neg h]
    constructor
    · intro h2; exact absurd h2 h
    · rintro rfl; exact absurd (cmpL_zero.2 rfl) h
theorem cmp2_range (x y) : cmp2 x y = -1 ∨ cmp2 x y = 0 ∨ cmp2 x y = 1 := by
  unfold cmp2
  split
  · exact cmpL_range _ _
  · exact cmpL_range _ _
theorem cmp2_lt_trans {x y z} (h1 : cmp2 x y = -1) (h2 : cmp2 y z = -1) : cmp2 x z = -1 := by
  unfold cmp2 at *
  by_cases a : cmpL x.1 y.1 = 0
  · rw [if_pos a] at h1
    rw [cmpL_zero] at a
    rw [a]
    by_cases b : cmpL y.1 z.1 = 0
    · rw [if_pos b] at h2 ⊢; exact cmpL_lt_trans h1 h2
    · rw [if_neg b] at h2 ⊢; exact h2
  · rw [if_neg a] at h1
    by_cases b : cmpL y.1 z.1 = 0
    · rw [cmpL_zero] at b
      rw [← b, if_neg a]; exact h1
    · rw [if_neg b] at h2
      have := cmpL_lt_trans h1 h2
      rw [if_neg (by omega)]; exact this

/-- A digit's byte. -/
def dig (c : Int) : Bool := decide (48 ≤ c ∧ c ≤ 57)
theorem dig_iff {c : Int} : dig c = true ↔ 48 ≤ c ∧ c ≤ 57 := by unfold dig; simp
theorem dig_no {c : Int} : dig c = false ↔ c < 48 ∨ 57 < c := by unfold dig; simp; omega
/-- A run of digits without its 0s in front. -/
def strip (l : List Int) : List Int := l.dropWhile fun c => decide (c = 48)
/-- A text's key. -/
def key : List Int → List Int
  | [] => []
  | c :: t => if dig c = true then 48 :: ((strip (c :: t.takeWhile dig)).length : Int) :: (strip (c :: t.takeWhile dig) ++ key (t.dropWhile dig)) else c :: key t
  termination_by l => l.length
  decreasing_by
    all_goals simp_wf
    · have := (List.dropWhile_sublist dig (l := t)).length_le; omega
theorem key_nil : key [] = [] := by rw [key]
theorem key_dig {c : Int} {t : List Int} (h : dig c = true) :
    key (c :: t) = 48 :: ((strip (c :: t.takeWhile dig)).length : Int) :: (strip (c :: t.takeWhile dig) ++ key (t.dropWhile dig)) := by rw [key, if_pos h]
theorem key_other {c : Int} {t : List Int} (h : dig c = false) : key (c :: t) = c :: key t := by rw [key, if_neg (by simp [h])]
/-- The order. -/
def natural (a b : List Int) : Int := cmp2 (key a, a) (key b, b)
theorem natural_anti (a b) : natural b a = - natural a b := cmp2_anti _ _
theorem natural_zero {a b} : natural a b = 0 ↔ a = b := by
  unfold natural
  rw [cmp2_zero]
  constructor
  · intro h; injection h
  · rintro rfl; rfl
theorem natural_range (a b) : natural a b = -1 ∨ natural a b = 0 ∨ natural a b = 1 := cmp2_range _ _
theorem natural_lt_trans {a b c} (h1 : natural a b = -1) (h2 : natural b c = -1) : natural a c = -1 := cmp2_lt_trans h1 h2
theorem natural_le_trans {a b c} (h1 : natural a b ≤ 0) (h2 : natural b c ≤ 0) : natural a c ≤ 0 ∧ (natural a c = 0 ↔ natural a b = 0 ∧ natural b c = 0) := by
  rcases natural_range a b with x | x | x
  · rcases natural_range b c with y | y | y
    · have := natural_lt_trans x y; omega
    · have := natural_zero.1 y; subst this; omega
    · omega
  · have := natural_zero.1 x; subst this
    rw [x]; omega
  · omega

theorem cmpL_append_same : ∀ {x y s t : List Int}, x.length = y.length → cmpL (x ++ s) (y ++ t) = if cmpL x y = 0 then cmpL s t else cmpL x y
  | [], [], s, t, _ => by simp [cmpL]
  | [], _ :: _, _, _, h => by simp at h
  | _ :: _, [], _, _, h => by simp at h
  | a :: x, b :: y, s, t, h => by
    have ih := cmpL_append_same (x := x) (y := y) (s := s) (t := t) (by simpa using h)
    simp only [List.cons_append]
    rw [cmpL_cons, cmpL_cons]
    by_cases h1 : a < b
    · rw [if_pos h1, if_pos h1]; rfl
    · rw [if_neg h1, if_neg h1]
      by_cases h2 : b < a
      · rw [if_pos h2, if_pos h2]; rfl
      · rw [if_neg h2, if_neg h2, ih]
theorem cmpL_prefix : ∀ (p s t : List Int), cmpL (p ++ s) (p ++ t) = cmpL s t
  | [], _, _ => rfl
  | x :: p, s, t => by
    simp only [List.cons_append]
    rw [cmpL_cons, if_neg (by omega), if_neg (by omega)]; exact cmpL_prefix p s t
/-- Two runs of digits without 0s in front: by length, then by digits. -/
def cmpN (x y : List Int) : Int := if x.length < y.length then -1 else if y.length < x.length then 1 else cmpL x y
theorem cmpL_number (x y s t : List Int) :
    cmpL (48 :: (x.length : Int) :: (x ++ s)) (48 :: (y.length : Int) :: (y ++ t)) = if cmpN x y = 0 then cmpL s t else cmpN x y := by
  rw [cmpL_cons, if_neg (by omega), if_neg (by omega), cmpL_cons]
  unfold cmpN
  by_cases h1 : x.length < y.length
  · rw [if_pos (by omega), if_pos h1]; rfl
  · rw [if_neg (by omega), if_neg h1]
    by_cases h2 : y.length < x.length
    · rw [if_pos (by omega), if_pos h2]; rfl
    · rw [if_neg (by omega), if_neg h2, cmpL_append_same (by omega)]
end Go.Proofs.YthkpmldjbogngaaDoor.Ord
