/- RfN in plain Lean. -/
import Derived.Test.YtlmdcpooogaolaaDoorSw3
import Derived.Test.YtlmdcpooogaolaaDoorGx9
namespace Go.Proofs.YtlmdcpooogaolaaDoor.Pure
open Go.RowKit Go.Proofs.YtlmdcpooogaolaaDoor.G Go.Proofs.YtlmdcpooogaolaaDoorW.PrintWords Go.Proofs.YtlmdcpooogaolaaDoorW.PrintLast Go.Proofs.YtlmdcpooogaolaaDoorW.PrintMore
set_option linter.unusedVariables false
theorem refNorm_ev (l : List S32) (h : l.length ≤ 2097152) : Ev (fun k => barrowref01_Norm.f k l) (canon l) := by
  have hU := sweep_union [l] (by simp) (by simp; omega)
  have eU : ([l] : List (List S32)).flatten = l := by simp
  rw [eU] at hU
  unfold barrowref01_Norm.f
  exact Ev.bind hU (Ev.now _)
end Go.Proofs.YtlmdcpooogaolaaDoor.Pure
