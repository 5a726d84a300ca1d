/- RfN in plain Lean. -/
import Derived.Test.YtcblhfnjcanliaaSw3
import Derived.Test.YtcblhfnjcanliaaGx4
namespace Go.Proofs.Ytcblhfnjcanliaa.Pure
open Go.RowKit Go.Proofs.Ytcblhfnjcanliaa.G Go.Proofs.YtcblhfnjcanliaaW.PrintWords Go.Proofs.YtcblhfnjcanliaaW.PrintLast Go.Proofs.YtcblhfnjcanliaaW.PrintMore
set_option linter.unusedVariables false
theorem refNorm_ev (l : List S24) (h : l.length ≤ 2097152) : Ev (fun k => barrowref01_Norm.f k l) (canon l) := by
  have hU := sweep_union [l] (by simp) (by simp; omega)
  have eU : ([l] : List (List S24)).flatten = l := by simp
  rw [eU] at hU
  unfold barrowref01_Norm.f
  exact Ev.bind hU (Ev.now _)
end Go.Proofs.Ytcblhfnjcanliaa.Pure
