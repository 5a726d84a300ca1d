import Derived.Test.YtlmdhpfggobogaaDoorQSk22
import Derived.Test.YtlmdhpfggobogaaDoorQSk6
import Derived.Lib.ParseIntBTie
namespace Go.Proofs.YtlmdhpfggobogaaDoor.G
open Go.RowKit Go.Proofs.YtlmdhpfggobogaaDoorW.PrintWords Go.Proofs.YtlmdhpfggobogaaDoorW.PrintLast
open Go.Proofs.YtlmdhpfggobogaaDoor.Dec (digs sdig sdig_head dig dig_iff val val_digs digs_dig digs_ne digs_val valFrom decDigits_digs)
set_option linter.unusedVariables false
def numR (s : ByteArray) : Option Int := if (rdNum s).2 = true then some (rdNum s).1 else none
theorem numR_some (s : ByteArray) (v : Int) (h : inI v) (hs : bytesOf s = numI v) : numR s = some v := by
  have e : s = itoaB v := bytesOf_inj (by rw [itoa_bytes, hs])
  have h1 := readNumber_itoa v h
  unfold script_readNumber.f at h1
  have hl := numI_len v h
  rw [← itoa_bytes, bytesOf_length] at hl
  rw [if_pos (by omega)] at h1
  have h2 := Option.some.inj h1
  subst e
  unfold numR
  rw [h2, if_pos rfl]
def silI : List Int → Bool
  | [] => true
  | c :: t => if isB c = true then silI t else c == 35
theorem hash_app (acc : List (List Int)) (w : List Int) (h : acc ≠ []) : hashL (acc ++ [w]) = hashL acc := by
  unfold hashL
  cases acc with
  | nil => exact absurd rfl h
  | cons a t => rfl
def stW : St → Option (List Int)
  | .gap => none
  | .bare w => some w
  | .quo w => some w
  | .shut w => some w
def calm (st : St) (acc : List (List Int)) : Prop := (acc ≠ [] ∧ hashL acc = false) ∨ (acc = [] ∧ ∃ c w, stW st = some (c :: w) ∧ c ≠ 35)
theorem calm_push {w : List Int} {acc : List (List Int)} {st : St} (hst : stW st = some w) (h : calm st acc) : hashL (acc ++ [w]) = false := by
  rcases h with ⟨h1, h2⟩ | ⟨h1, c, u, h2, h3⟩
  · rw [hash_app acc w h1, h2]
  · rw [hst] at h2
    have h2 := Option.some.inj h2
    subst h1; subst h2
    unfold hashL
    simpa using h3
theorem calm_next {w w' : List Int} {acc : List (List Int)} {st st' : St} (hst : stW st = some w) (hst' : stW st' = some (w ++ w')) (h : calm st acc) : calm st' acc := by
  rcases h with h1 | ⟨h1, c, u, h2, h3⟩
  · exact .inl h1
  · rw [hst] at h2
    have h2 := Option.some.inj h2
    subst h2
    exact .inr ⟨h1, c, u ++ w', hst', h3⟩
theorem run_calm : ∀ (l : List Int) (st : St) (acc : List (List Int)), calm st acc → run true l st acc = run false l st acc
  | [], .gap, acc, _ => rfl
  | [], .bare w, acc, h => by
    have e := calm_push (st := .bare w) rfl h
    simp [run, e]
  | [], .quo w, acc, _ => rfl
  | [], .shut w, acc, h => by
    have e := calm_push (st := .shut w) rfl h
    simp [run, e]
  | c :: t, .gap, acc, h => by
    rcases h with ⟨h1, h2⟩ | ⟨_, _, _, h2, _⟩
    · have key : ∀ st, calm st acc := fun st => .inl ⟨h1, h2⟩
      unfold run
      by_cases hb : isB c = true
      · rw [if_pos hb, if_pos hb]; exact run_calm t _ _ (key _)
      · rw [if_neg hb, if_neg hb]
        by_cases hq : c = 34
        · rw [if_pos hq, if_pos hq]; exact run_calm t _ _ (key _)
        · rw [if_neg hq, if_neg hq]; exact run_calm t _ _ (key _)
    · cases h2
  | c :: t, .bare w, acc, h => by
    have e := calm_push (st := .bare w) rfl h
    unfold run
    by_cases hb : isB c = true
    · rw [if_pos hb, if_pos hb, e, Bool.and_false, Bool.and_false, if_neg (by decide), if_neg (by decide)]
      exact run_calm t _ _ (.inl ⟨by simp, e⟩)
    · rw [if_neg hb, if_neg hb]
      exact run_calm t _ _ (calm_next (st := .bare w) (st' := .bare (w ++ [c])) rfl rfl h)
  | c :: t, .quo w, acc, h => by
    unfold run
    by_cases hq : c = 34
    · rw [if_pos hq, if_pos hq]
      exact run_calm t _ _ (calm_next (st := .quo w) (st' := .shut (w ++ [34])) rfl rfl h)
    · rw [if_neg hq, if_neg hq]
      exact run_calm t _ _ (calm_next (st := .quo w) (st' := .quo (w ++ [c])) rfl rfl h)
  | c :: t, .shut w, acc, h => by
    have e := calm_push (st := .shut w) rfl h
    unfold run
    by_cases hb : isB c = true
    · rw [if_pos hb, if_pos hb, e, Bool.and_false, Bool.and_false, if_neg (by decide), if_neg (by decide)]
      exact run_calm t _ _ (.inl ⟨by simp, e⟩)
    · rw [if_neg hb, if_neg hb]
theorem run_mark : ∀ (l : List Int) (w : List Int), run true l (.bare (35 :: w)) [] = some []
  | [], w => by simp [run, hashL]
  | c :: t, w => by
    unfold run
    by_cases hb : isB c = true
    · rw [if_pos hb]; simp [hashL]
    · rw [if_neg hb]
      exact run_mark t (w ++ [c])
theorem run_silent : ∀ (l : List Int), silI l = true → run true l .gap [] = some []
  | [], _ => rfl
  | c :: t, h => by
    rw [silI] at h
    unfold run
    by_cases hb : isB c = true
    · rw [if_pos hb] at h ⊢
      exact run_silent t h
    · rw [if_neg hb] at h ⊢
      have hc : c = 35 := by simpa using h
      subst hc
      rw [if_neg (by decide)]
      exact run_mark t []
theorem run_len (hs : Bool) : ∀ (l : List Int) (st : St) (acc r : List (List Int)), hs = false → run hs l st acc = some r → acc.length + (if stW st = none then 0 else 1) ≤ r.length ∧ r.length ≤ acc.length + (if stW st = none then 0 else 1) + l.length
  | [], .gap, acc, r, hf, h => by simp [run] at h; subst h; simp [stW]
  | [], .bare w, acc, r, hf, h => by subst hf; simp [run] at h; subst h; simp [stW]
  | [], .quo w, acc, r, hf, h => by simp [run] at h
  | [], .shut w, acc, r, hf, h => by subst hf; simp [run] at h; subst h; simp [stW]
  | c :: t, .gap, acc, r, hf, h => by
    unfold run at h
    by_cases hb : isB c = true
    · rw [if_pos hb] at h
      have := run_len hs t _ _ _ hf h
      simp [stW] at this ⊢; omega
    · rw [if_neg hb] at h
      by_cases hq : c = 34
      · rw [if_pos hq] at h
        have := run_len hs t _ _ _ hf h
        simp [stW] at this ⊢; omega
      · rw [if_neg hq] at h
        have := run_len hs t _ _ _ hf h
        simp [stW] at this ⊢; omega
  | c :: t, .bare w, acc, r, hf, h => by
    unfold run at h
    by_cases hb : isB c = true
    · rw [if_pos hb, hf, Bool.false_and, if_neg (by decide)] at h
      have := run_len false t _ _ _ rfl h
      simp [stW] at this ⊢; omega
    · rw [if_neg hb] at h
      have := run_len hs t _ _ _ hf h
      simp [stW] at this ⊢; omega
  | c :: t, .quo w, acc, r, hf, h => by
    unfold run at h
    by_cases hq : c = 34
    · rw [if_pos hq] at h
      have := run_len hs t _ _ _ hf h
      simp [stW] at this ⊢; omega
    · rw [if_neg hq] at h
      have := run_len hs t _ _ _ hf h
      simp [stW] at this ⊢; omega
  | c :: t, .shut w, acc, r, hf, h => by
    unfold run at h
    by_cases hb : isB c = true
    · rw [if_pos hb, hf, Bool.false_and, if_neg (by decide)] at h
      have := run_len false t _ _ _ rfl h
      simp [stW] at this ⊢; omega
    · rw [if_neg hb] at h; cases h
theorem run_loud : ∀ (l : List Int), silI l = false → run true l .gap [] = run false l .gap [] ∧ ∀ r, run false l .gap [] = some r → r ≠ []
  | [], h => by cases h
  | c :: t, h => by
    rw [silI] at h
    unfold run
    by_cases hb : isB c = true
    · rw [if_pos hb] at h
      rw [if_pos hb, if_pos hb]
      exact run_loud t h
    · rw [if_neg hb] at h
      rw [if_neg hb, if_neg hb]
      have hc : c ≠ 35 := by simpa using h
      by_cases hq : c = 34
      · rw [if_pos hq, if_pos hq]
        refine ⟨run_calm t _ _ (.inr ⟨rfl, 34, [], rfl, by decide⟩), fun r hr => ?_⟩
        have := (run_len false t _ _ _ rfl hr).1
        simp [stW] at this
        intro e; subst e; simp at this
      · rw [if_neg hq, if_neg hq]
        refine ⟨run_calm t _ _ (.inr ⟨rfl, c, [], rfl, hc⟩), fun r hr => ?_⟩
        have := (run_len false t _ _ _ rfl hr).1
        simp [stW] at this
        intro e; subst e; simp at this
theorem run_size (hs : Bool) (B : Nat) : ∀ (l : List Int) (st : St) (acc r : List (List Int)), (∀ w ∈ acc, w.length ≤ B) → ((stW st).getD []).length + l.length ≤ B → run hs l st acc = some r → ∀ w ∈ r, w.length ≤ B := by
  have push : ∀ (acc : List (List Int)) (w : List Int), (∀ w ∈ acc, w.length ≤ B) → w.length ≤ B → ∀ u ∈ acc ++ [w], u.length ≤ B := by
    intro acc w h1 h2 u hu
    rcases List.mem_append.1 hu with h | h
    · exact h1 u h
    · rw [List.mem_singleton.1 h]; exact h2
  intro l
  induction l with
  | nil =>
    intro st acc r ha hb h
    cases st with
    | gap => simp [run] at h; subst h; exact ha
    | quo w => simp [run] at h
    | bare w =>
      simp only [run] at h
      split at h
      · simp at h; subst h; simp
      · simp at h; subst h; exact push acc w ha (by simpa [stW] using hb)
    | shut w =>
      simp only [run] at h
      split at h
      · simp at h; subst h; simp
      · simp at h; subst h; exact push acc w ha (by simpa [stW] using hb)
  | cons c t ih =>
    intro st acc r ha hb h
    cases st with
    | gap =>
      simp only [stW, Option.getD_none, List.length_nil, List.length_cons] at hb
      unfold run at h
      split at h
      · exact ih _ _ _ ha (by simp [stW]; omega) h
      · split at h
        · exact ih _ _ _ ha (by simp [stW]; omega) h
        · exact ih _ _ _ ha (by simp [stW]; omega) h
    | quo w =>
      simp only [stW, Option.getD_some, List.length_cons] at hb
      unfold run at h
      split at h
      · exact ih _ _ _ ha (by simp [stW]; omega) h
      · exact ih _ _ _ ha (by simp [stW]; omega) h
    | bare w =>
      simp only [stW, Option.getD_some, List.length_cons] at hb
      unfold run at h
      split at h
      · split at h
        · simp at h; subst h; simp
        · exact ih _ _ _ (push acc w ha (by omega)) (by simp [stW]; omega) h
      · exact ih _ _ _ ha (by simp [stW]; omega) h
    | shut w =>
      simp only [stW, Option.getD_some, List.length_cons] at hb
      unfold run at h
      split at h
      · split at h
        · simp at h; subst h; simp
        · exact ih _ _ _ (push acc w ha (by omega)) (by simp [stW]; omega) h
      · cases h
end Go.Proofs.YtlmdhpfggobogaaDoor.G

namespace Go.Proofs.YtlmdhpfggobogaaDoor.Pure
open Go.Proofs.YtlmdhpfggobogaaDoor.G hiding bytesOf_length
open Go.RowKit Go.Proofs.YtlmdhpfggobogaaDoorW.PrintWords Go.Proofs.YtlmdhpfggobogaaDoorW.PrintLast
open Go.Proofs.YtlmdhpfggobogaaDoor.Dec (digs val digs_val dig)
set_option linter.unusedVariables false
theorem equal_l0 (a0 a1 a2 a3 a4 a5 b0 b1 b2 b3 b4 b5 : Int) (l : List S29) (hl : l.length < 4611686018427387904) : ∀ (d i : Nat), i + d = l.length → Ev (fun k => barrowref24_Equal.l0 k i a0 a1 a2 a3 a4 a5 l b0 b1 b2 b3 b4 b5 l) true
  | 0, i, hd => by
    refine Ev.step (f := fun _ => some true) (fun k => ?_) (Ev.now _)
    simp only [barrowref24_Equal.l0]
    rw [if_neg (by omega)]
  | d + 1, i, hd => by
    refine Ev.step (fun k => ?_) (equal_l0 a0 a1 a2 a3 a4 a5 b0 b1 b2 b3 b4 b5 l hl d (i + 1) (by omega))
    simp only [barrowref24_Equal.l0]
    rw [if_pos (by omega), if_pos (by omega), if_pos (by omega), if_neg (by simp), w64_nat i (by omega)]
theorem equal_ev (a0 a1 a2 a3 a4 a5 : Int) (l : List S29) (hl : l.length < 4611686018427387904) : Ev (fun k => barrowref24_Equal.f k a0 a1 a2 a3 a4 a5 l a0 a1 a2 a3 a4 a5 l) true := by
  unfold barrowref24_Equal.f
  refine Ev.congr (f := fun k => barrowref24_Equal.j0 k false a0 a1 a2 a3 a4 a5 l a0 a1 a2 a3 a4 a5 l) (fun k => ?_) (Ev.step (fun k => ?_) (equal_l0 a0 a1 a2 a3 a4 a5 a0 a1 a2 a3 a4 a5 l hl l.length 0 (by omega)))
  · rw [if_neg (by simp), show ((l.length : Int) != (l.length : Int)) = false from by simp]
  · simp only [barrowref24_Equal.j0]
    rw [if_neg (by decide)]
    rfl
end Go.Proofs.YtlmdhpfggobogaaDoor.Pure
