import Derived.Test.YtlmdcpooogaolaaDoorQTh11
import Derived.Test.YtlmdcpooogaolaaDoorQTh7
import Derived.Lib.CutLaws
/- Texts of runs: pieces between commas, two numbers with two dots between; lists of bytes alone. -/
namespace Go.Proofs.YtlmdcpooogaolaaDoor.Txt
open Go.RowKit Go.Proofs.YtlmdcpooogaolaaDoor.G Go.Proofs.YtlmdcpooogaolaaDoor.Dec Go.Proofs.YtlmdcpooogaolaaDoor.Pure Go.Proofs.YtlmdcpooogaolaaDoorW.PrintWords Go.Proofs.YtlmdcpooogaolaaDoorW.PrintLast
set_option linter.unusedVariables false
/-! ### Pieces -/
def splitL : List Int → List (List Int)
  | [] => [[]]
  | c :: t => if c = 44 then [] :: splitL t else match splitL t with | [] => [[c]] | p :: ps => (c :: p) :: ps
def joinL : List (List Int) → List Int
  | [] => []
  | [p] => p
  | p :: q :: r => p ++ 44 :: joinL (q :: r)
theorem splitL_ne (l : List Int) : splitL l ≠ [] := by
  cases l with
  | nil => simp [splitL]
  | cons c t =>
    simp only [splitL]
    split
    · simp
    · split <;> simp
theorem join_split : ∀ l : List Int, joinL (splitL l) = l
  | [] => rfl
  | c :: t => by
    have ih := join_split t
    have hne := splitL_ne t
    simp only [splitL]
    by_cases hc : c = 44
    · rw [if_pos hc]
      cases hs : splitL t with
      | nil => exact absurd hs hne
      | cons p ps => rw [hs] at ih; rw [joinL, ih, hc]; rfl
    · rw [if_neg hc]
      cases hs : splitL t with
      | nil => exact absurd hs hne
      | cons p ps =>
        rw [hs] at ih
        cases ps with
        | nil => simp only [joinL] at ih ⊢; rw [ih]
        | cons q r => simp only [joinL] at ih ⊢; rw [← ih]; rfl
theorem split_plain : ∀ p : List Int, (∀ c ∈ p, c ≠ 44) → splitL p = [p]
  | [], _ => rfl
  | c :: t, h => by
    simp only [splitL]
    rw [if_neg (h c (by simp)), split_plain t (fun x hx => h x (by simp [hx]))]
theorem split_app : ∀ (p r : List Int), (∀ c ∈ p, c ≠ 44) → splitL (p ++ 44 :: r) = p :: splitL r
  | [], r, _ => by simp [splitL]
  | c :: t, r, h => by
    simp only [List.cons_append, splitL]
    rw [if_neg (h c (by simp)), split_app t r (fun x hx => h x (by simp [hx]))]
theorem split_join : ∀ ps : List (List Int), ps ≠ [] → (∀ p ∈ ps, ∀ c ∈ p, c ≠ 44) → splitL (joinL ps) = ps
  | [], h, _ => absurd rfl h
  | [p], _, h => split_plain p (h p (by simp))
  | p :: q :: r, _, h => by
    rw [joinL, split_app p _ (h p (by simp)), split_join (q :: r) (by simp) (fun x hx => h x (by simp [hx]))]
/-! ### A run's text -/
def runText (r : S32) : List Int := digs r.f0.toNat ++ (if r.f0 < r.f1 then 46 :: 46 :: digs r.f1.toNat else [])
def txt (l : List S32) : List Int := joinL (l.map runText)
def dotsL : List Int → Option (List Int × List Int)
  | a :: b :: t => if a = 46 ∧ b = 46 then some ([], t) else (dotsL (b :: t)).map fun x => (a :: x.1, x.2)
  | _ => none
theorem dots_plain : ∀ p : List Int, (∀ c ∈ p, c ≠ 46) → dotsL p = none
  | [], _ => rfl
  | [a], _ => rfl
  | a :: b :: t, h => by
    rw [dotsL, if_neg (fun e => h a (by simp) e.1), dots_plain (b :: t) (fun x hx => h x (by simp [hx]))]; rfl
theorem dots_app : ∀ (p r : List Int), (∀ c ∈ p, c ≠ 46) → dotsL (p ++ 46 :: 46 :: r) = some (p, r)
  | [], r, _ => by simp [dotsL]
  | [a], r, h => by
    have ih := dots_app [] r (by simp)
    simp only [List.nil_append] at ih
    simp only [List.cons_append, List.nil_append, dotsL]
    rw [if_neg (fun e => h a (by simp) e.1)]
    simp
  | a :: b :: t, r, h => by
    have ih := dots_app (b :: t) r (fun x hx => h x (by simp [hx]))
    simp only [List.cons_append] at ih ⊢
    rw [dotsL, if_neg (fun e => h a (by simp) e.1), ih]; rfl
theorem dots_back : ∀ (l p q : List Int), dotsL l = some (p, q) → l = p ++ 46 :: 46 :: q
  | [], _, _, h => by cases h
  | [a], _, _, h => by cases h
  | a :: b :: t, p, q, h => by
    rw [dotsL] at h
    by_cases e : a = 46 ∧ b = 46
    · rw [if_pos e] at h
      simp only [Option.some.injEq, Prod.mk.injEq] at h
      obtain ⟨rfl, rfl⟩ := h
      rw [e.1, e.2]; rfl
    · rw [if_neg e] at h
      cases hd : dotsL (b :: t) with
      | none => rw [hd] at h; cases h
      | some x =>
        rw [hd] at h
        simp only [Option.map_some, Option.some.injEq, Prod.mk.injEq] at h
        obtain ⟨rfl, rfl⟩ := h
        rw [dots_back (b :: t) x.1 x.2 hd]; rfl
/-! ### Numbers -/
theorem digs_len10 (n : Nat) (h : n ≤ 1000000000) : (digs n).length ≤ 10 := by
  unfold digs
  split
  · simp
  · exact sdig_len n 10 (by omega)
theorem digs_all (n : Nat) : (digs n).all dig = true := by
  rw [List.all_eq_true]; exact fun c hc => dig_iff.2 (digs_dig n c hc)
theorem digs_head (n : Nat) (h : 1 ≤ n) : (digs n).headD 0 ≠ 48 := by
  unfold digs
  rw [if_neg (by omega)]
  cases hs : sdig n with
  | nil => simp
  | cons c t => simpa using sdig_head n c t hs
theorem numL_digs (n : Nat) (h1 : 1 ≤ n) (h : n ≤ 1000000000) : numL (digs n) = n := by
  unfold numL
  have := digs_len10 n h
  rw [if_neg (by intro e; rcases e with e | e | e; exact digs_ne n e; omega; exact digs_head n h1 e), if_neg (by rw [digs_all]; decide), val_digs, if_neg (by omega)]
theorem numL_back (l : List Int) (h : numL l ≠ 0) : ∃ n : Nat, numL l = n ∧ 1 ≤ n ∧ n ≤ 1000000000 ∧ l = digs n := by
  unfold numL at *
  by_cases c1 : l = [] ∨ 10 < l.length ∨ l.headD 0 = 48
  · rw [if_pos c1] at h; exact absurd rfl h
  · rw [if_neg c1] at h ⊢
    by_cases c2 : l.all dig = false
    · rw [if_pos c2] at h; exact absurd rfl h
    · rw [if_neg c2] at h ⊢
      by_cases c3 : 1000000000 < val l
      · rw [if_pos c3] at h; exact absurd rfl h
      · rw [if_neg c3] at h ⊢
        obtain ⟨n, hn, hs⟩ := digs_val l (fun e => c1 (.inl e)) (by simpa using c2) (fun e => c1 (.inr (.inr e.1)))
        exact ⟨n, hn, by omega, by omega, hs.symm⟩
theorem digs_no (n : Nat) (c : Int) (h : c < 48 ∨ 57 < c) : ∀ x ∈ digs n, x ≠ c := fun x hx e => by have := digs_dig n x hx; omega
/-! ### The strict piece, the loose piece -/
/-- The strict reader's piece: its run, if it is one. -/
def strictL (l : List Int) : S32 × Bool :=
  match dotsL l with
  | some (p, q) => (⟨numL p, numL q⟩, !(numL p == 0 || numL q == 0 || decide (numL q ≤ numL p)))
  | none => (⟨numL l, numL l⟩, !(numL l == 0))
theorem dots_run (r : S32) : dotsL (runText r) = if r.f0 < r.f1 then some (digs r.f0.toNat, digs r.f1.toNat) else none := by
  unfold runText
  by_cases h : r.f0 < r.f1
  · rw [if_pos h, if_pos h]; exact dots_app _ _ (digs_no _ 46 (by omega))
  · rw [if_neg h, if_neg h, List.append_nil]; exact dots_plain _ (digs_no _ 46 (by omega))
theorem runText_no (r : S32) : ∀ c ∈ runText r, c ≠ 44 := by
  unfold runText
  intro c hc
  rcases List.mem_append.1 hc with h | h
  · exact digs_no _ 44 (by omega) c h
  · split at h
    · rcases List.mem_cons.1 h with h | h
      · omega
      · rcases List.mem_cons.1 h with h | h
        · omega
        · exact digs_no _ 44 (by omega) c h
    · cases h
theorem strict_run (r : S32) (h : Pure.Good r) : strictL (runText r) = (r, true) := by
  obtain ⟨h1, h2, h3⟩ := h
  have e0 : ((r.f0.toNat : Nat) : Int) = r.f0 := by omega
  have e1 : ((r.f1.toNat : Nat) : Int) = r.f1 := by omega
  unfold strictL
  rw [dots_run]
  by_cases hc : r.f0 < r.f1
  · rw [if_pos hc]
    simp only []
    rw [numL_digs _ (by omega) (by omega), numL_digs _ (by omega) (by omega), e0, e1]
    simp only [Prod.mk.injEq, true_and]
    simp
    omega
  · rw [if_neg hc]
    have : runText r = digs r.f0.toNat := by unfold runText; rw [if_neg hc, List.append_nil]
    simp only []
    rw [this, numL_digs _ (by omega) (by omega), e0]
    have e2 : r.f1 = r.f0 := by omega
    obtain ⟨a, b⟩ := r
    simp only at e2 ⊢
    subst e2
    have h1' : 1 ≤ b := h1
    simp
    omega
theorem strict_back (l : List Int) (h : (strictL l).2 = true) : l = runText (strictL l).1 ∧ Pure.Good (strictL l).1 := by
  unfold strictL at *
  cases hd : dotsL l with
  | none =>
    rw [hd] at h
    simp only [] at h ⊢
    obtain ⟨n, hn, h1, h2, hl⟩ := numL_back l (by simpa using h)
    refine ⟨?_, ?_⟩
    · unfold runText
      simp only []
      rw [if_neg (by omega), List.append_nil, hn, Int.toNat_natCast]; exact hl
    · rw [hn]; exact ⟨by simp only []; omega, by simp only []; omega, by simp only []; omega⟩
  | some x =>
    obtain ⟨p, q⟩ := x
    rw [hd] at h
    simp only [] at h ⊢
    simp at h
    obtain ⟨n, hn, n1, n2, hp⟩ := numL_back p h.1.1
    obtain ⟨m, hm, m1, m2, hq⟩ := numL_back q h.1.2
    have hlt := h.2
    rw [hn, hm] at hlt ⊢
    refine ⟨?_, by simp only []; omega, by simp only []; omega, by simp only []; omega⟩
    unfold runText
    simp only [Int.toNat_natCast]
    rw [if_pos hlt, ← hp, ← hq]
    exact dots_back l p q hd
end Go.Proofs.YtlmdcpooogaolaaDoor.Txt
