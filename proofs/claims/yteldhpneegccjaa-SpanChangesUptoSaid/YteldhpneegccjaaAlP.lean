/- What printed span functions answer: Put, Drop. -/
import Derived.Test.YteldhpneegccjaaAlM
import Derived.Test.YteldhpneegccjaaGx43
import Derived.Test.YteldhpneegccjaaGx46
namespace Go.Proofs.Yteldhpneegccjaa.Pure
open Go.RowKit Go.Proofs.Yteldhpneegccjaa.G Go.Proofs.YteldhpneegccjaaW.PrintWords Go.Proofs.YteldhpneegccjaaW.PrintLast Go.Proofs.YteldhpneegccjaaW.PrintMore
set_option linter.unusedVariables false

theorem put_ev (l : List S26) (n : Int) (h : l.length < 8796093022208) : Ev (fun k => span_Put.f k l n) (if 1 ≤ n ∧ n ≤ 1000000000 then (canon (l ++ [⟨n, n⟩]), 0) else ([], 2)) := by
  unfold span_Put.f
  by_cases h1 : n < 1
  · simp only [if_pos h1]
    rw [if_neg (by omega)]
    exact Ev.now _
  · simp only [if_neg h1]
    by_cases h2 : n > 1000000000
    · simp only [if_pos h2]
      rw [if_neg (by omega)]
      exact Ev.now _
    · simp only [if_neg h2]
      rw [if_pos (by omega)]
      refine Ev.bind (a := canon (l ++ [⟨n, n⟩])) ?_ (Ev.now _)
      have hc := clips_len ([l, [⟨n, n⟩]] : List (List S26)).flatten
      have := union_ev [l, [⟨n, n⟩]] (by simp) (by intro x hx; simp at hx; rcases hx with rfl | rfl <;> (try simp only [List.length_singleton]) <;> omega) (by simp at hc ⊢; omega)
      simpa using this
theorem drop_ev (l : List S26) (n : Int) (h : Fit l) : ∃ R, Rep R (fun x => Mem l x ∧ ¬ Mem [⟨n, n⟩] x) ∧ Ev (fun k => span_Drop.f k l n) (if 1 ≤ n ∧ n ≤ 1000000000 then (R, 0) else ([], 2)) := by
  obtain ⟨R, hR, hRep⟩ := minus_ev l [⟨n, n⟩] h (by simp [Fit])
  refine ⟨R, hRep, ?_⟩
  unfold span_Drop.f
  by_cases h1 : n < 1
  · simp only [if_pos h1]
    rw [if_neg (by omega)]
    exact Ev.now _
  · simp only [if_neg h1]
    by_cases h2 : n > 1000000000
    · simp only [if_pos h2]
      rw [if_neg (by omega)]
      exact Ev.now _
    · simp only [if_neg h2]
      rw [if_pos (by omega)]
      exact Ev.bind hR (Ev.now _)
end Go.Proofs.Yteldhpneegccjaa.Pure
