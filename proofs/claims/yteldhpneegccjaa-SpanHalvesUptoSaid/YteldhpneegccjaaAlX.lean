/- What the printed awake answers. -/
import Derived.Test.YteldhpneegccjaaAl2
import Derived.Test.YteldhpneegccjaaGx20
namespace Go.Proofs.Yteldhpneegccjaa.Pure
open Go.RowKit Go.Proofs.Yteldhpneegccjaa.G Go.Proofs.YteldhpneegccjaaW.PrintWords Go.Proofs.YteldhpneegccjaaW.PrintLast Go.Proofs.YteldhpneegccjaaW.PrintMore
set_option linter.unusedVariables false
theorem awake_ev : Ev (fun k => barrowlaw01_awake.f k) true := by
  unfold barrowlaw01_awake.f
  have e : canon [(⟨3, 5⟩ : S26), ⟨1, 2⟩] = [⟨1, 5⟩] := by
    refine canon_of (P := fun n => 1 ≤ n ∧ n ≤ 5) ⟨by simp [Norm, NormFrom], fun n => ?_⟩ _ (fun n => ?_)
    · rw [mem_cons]; simp [mem_nil]; omega
    · rw [mem_cons, mem_cons]; simp [mem_nil]; omega
  have h := norm_ev [(⟨3, 5⟩ : S26), ⟨1, 2⟩] (by simp [Fit])
  rw [e] at h
  refine Ev.bind h ?_
  exact Ev.now _
end Go.Proofs.Yteldhpneegccjaa.Pure
