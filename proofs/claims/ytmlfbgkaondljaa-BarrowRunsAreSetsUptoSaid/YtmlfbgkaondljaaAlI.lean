/- What printed span functions answer: IsNorm, Last. -/
import Derived.Test.YtmlfbgkaondljaaAl2
import Derived.Test.YtmlfbgkaondljaaGx10
namespace Go.Proofs.Ytmlfbgkaondljaa.Pure
open Go.RowKit Go.Proofs.Ytmlfbgkaondljaa.G Go.Proofs.YtmlfbgkaondljaaW.PrintWords Go.Proofs.YtmlfbgkaondljaaW.PrintLast Go.Proofs.YtmlfbgkaondljaaW.PrintMore
set_option linter.unusedVariables false

def normB : Int → List S28 → Bool
  | _, [] => true
  | last, r :: t => decide (last + 2 ≤ r.f0) && decide (r.f0 ≤ r.f1) && decide (r.f1 ≤ 1000000000) && normB r.f1 t
theorem normB_iff (l : List S28) : ∀ last, normB last l = true ↔ NormFrom last l := by
  induction l with
  | nil => intro _; simp [normB, NormFrom]
  | cons r t ih => intro last; simp only [normB, NormFrom, Bool.and_eq_true, decide_eq_true_eq, ih, and_assoc]
theorem isNorm_l0 (row : List S28) (hr : Fit row) (pre suf : List S28) (hp : row = pre ++ suf) : ∀ (last : Int), -1 ≤ last → last ≤ 1000000000 →
    Ev (fun k => span_IsNorm.l0 k last row (row.length : Int) (pre.length : Int)) (normB last suf) := by
  induction suf generalizing pre with
  | nil =>
    intro last _ _
    refine Ev.step (f := fun _ => some (normB last [])) (fun k => ?_) (Ev.now _)
    simp only [span_IsNorm.l0]
    rw [if_neg (by rw [hp]; simp)]
    simp [normB]
  | cons r t ih =>
    intro last h1 h2
    have e1 : wrap64 ((pre.length : Int) + 1) = ((pre ++ [r]).length : Int) := by unfold Fit at hr; rw [w64_nat _ (by rw [hp] at hr; simp at hr; omega)]; simp
    have hlt : (pre.length : Int) < (row.length : Int) := by rw [hp]; simp; omega
    have hget : rd_T28 row (pre.length : Int) = r := by rw [hp]; exact rdT pre t r
    by_cases hc : last + 2 ≤ r.f0 ∧ r.f0 ≤ r.f1 ∧ r.f1 ≤ 1000000000
    · have hI := ih (pre ++ [r]) (by rw [hp]; simp) r.f1 (by omega) (by omega)
      rw [show normB last (r :: t) = normB r.f1 t from by simp only [normB]; rw [decide_eq_true hc.1, decide_eq_true hc.2.1, decide_eq_true hc.2.2]; rfl]
      refine Ev.step (fun k => ?_) hI
      simp only [span_IsNorm.l0]
      rw [if_pos hlt, if_pos (by omega), if_pos hlt, hget, if_neg (by omega), if_neg (by omega), if_neg (by omega), w64 (by omega) (by omega), if_neg (by omega), e1]
    · refine Ev.step (f := fun _ => some (normB last (r :: t))) (fun k => ?_) (Ev.now _)
      have e2 : normB last (r :: t) = false := by
        rw [Bool.eq_false_iff]
        intro h
        simp only [normB, Bool.and_eq_true, decide_eq_true_eq] at h
        exact hc ⟨h.1.1.1, h.1.1.2, h.1.2⟩
      simp only [span_IsNorm.l0]
      rw [if_pos hlt, if_pos (by omega), if_pos hlt, hget, e2, w64 (x := last + 2) (by omega) (by omega)]
      split
      · rfl
      · split
        · rfl
        · split
          · rfl
          · rw [if_pos (by omega)]
theorem isNorm_ev (l : List S28) (h : Fit l) : Ev (fun k => span_IsNorm.f k l) (normB (-1) l) := by
  unfold span_IsNorm.f
  exact isNorm_l0 l h [] l rfl (-1) (by omega) (by omega)

end Go.Proofs.Ytmlfbgkaondljaa.Pure
