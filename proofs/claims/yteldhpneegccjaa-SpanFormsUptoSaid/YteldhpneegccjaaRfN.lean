/- RfN in plain Lean. -/
import Derived.Test.YteldhpneegccjaaSw3
import Derived.Test.YteldhpneegccjaaGx14
namespace Go.Proofs.Yteldhpneegccjaa.Pure
open Go.RowKit Go.Proofs.Yteldhpneegccjaa.G Go.Proofs.YteldhpneegccjaaW.PrintWords Go.Proofs.YteldhpneegccjaaW.PrintLast Go.Proofs.YteldhpneegccjaaW.PrintMore
set_option linter.unusedVariables false
/-- The reference's size of a list in form. -/
theorem refSize_l0 (row : List S26) (hr : row.length < 8796093022208) (pre suf : List S26) (hp : row = pre ++ suf) : ∀ (x last : Int), NormFrom last suf → -1 ≤ last → 0 ≤ x → x ≤ last + 1 →
    Ev (fun k => barrowref01_Size.l0 k row x (pre.length : Int)) (x + sizeL suf) := by
  induction suf generalizing pre with
  | nil =>
    intro x last _ _ _ _
    refine Ev.step (f := fun _ => some (x + sizeL [])) (fun k => ?_) (Ev.now _)
    simp only [barrowref01_Size.l0]
    rw [if_neg (by rw [hp]; simp)]
    simp [sizeL]
  | cons r t ih =>
    intro x last hn hl h0 h2
    obtain ⟨n1, n2, n3, n4⟩ := hn
    have e1 : wrap64 ((pre.length : Int) + 1) = ((pre ++ [r]).length : Int) := by rw [w64_nat _ (by rw [hp] at hr; simp at hr; omega)]; simp
    have hlt : (pre.length : Int) < (row.length : Int) := by rw [hp]; simp; omega
    have hget : rd_T26 row (pre.length : Int) = r := by rw [hp]; exact rdT pre t r
    have hI := ih (pre ++ [r]) (by rw [hp]; simp) (x + (r.f1 - r.f0 + 1)) r.f1 n4 (by omega) (by omega) (by omega)
    rw [show x + sizeL (r :: t) = x + (r.f1 - r.f0 + 1) + sizeL t from by simp only [sizeL]; omega]
    refine Ev.step (fun k => ?_) hI
    simp only [barrowref01_Size.l0]
    rw [if_pos hlt, if_pos (by omega), hget, e1, w64 (x := x + r.f1) (by omega) (by omega), w64 (x := x + r.f1 - r.f0) (by omega) (by omega), w64 (x := x + r.f1 - r.f0 + 1) (by omega) (by omega), show x + r.f1 - r.f0 + 1 = x + (r.f1 - r.f0 + 1) from by omega]
theorem refNorm_ev (l : List S26) (h : l.length ≤ 2097152) : Ev (fun k => barrowref01_Norm.f k l) (canon l) := by
  have hU := sweep_union [l] (by simp) (by simp; omega)
  have eU : ([l] : List (List S26)).flatten = l := by simp
  rw [eU] at hU
  unfold barrowref01_Norm.f
  exact Ev.bind hU (Ev.now _)
theorem refSize_ev (l : List S26) (h : l.length ≤ 2097152) : Ev (fun k => barrowref01_Size.f k l) (sizeL (canon l)) := by
  have hl := (canon_norm' l).len
  have := refSize_l0 (canon l) (by omega) [] (canon l) rfl 0 (-1) (canon_norm' l) (by omega) (by omega) (by omega)
  rw [Int.zero_add] at this
  unfold barrowref01_Size.f
  exact Ev.bind (refNorm_ev l h) this
end Go.Proofs.Yteldhpneegccjaa.Pure
