/- What printed span functions answer: First, Gap. -/
import Derived.Test.YteldhpneegccjaaAl2
import Derived.Test.YteldhpneegccjaaGx39
import Derived.Test.YteldhpneegccjaaGx41
namespace Go.Proofs.Yteldhpneegccjaa.Pure
open Go.RowKit Go.Proofs.Yteldhpneegccjaa.G Go.Proofs.YteldhpneegccjaaW.PrintWords Go.Proofs.YteldhpneegccjaaW.PrintLast Go.Proofs.YteldhpneegccjaaW.PrintMore
set_option linter.unusedVariables false

def firstL : List S26 → Int → Int
  | [], _ => 0
  | r :: t, n => if r.f1 ≥ n then mx r.f0 n else firstL t n
theorem first_l0 (n : Int) (row : List S26) (hr : Fit row) (pre suf : List S26) (hp : row = pre ++ suf) :
    Ev (fun k => span_First.l0 k n row (row.length : Int) (pre.length : Int)) (firstL suf n) := by
  induction suf generalizing pre with
  | nil =>
    refine Ev.step (f := fun _ => some (firstL [] n)) (fun k => ?_) (Ev.now _)
    simp only [span_First.l0]
    rw [if_neg (by rw [hp]; simp)]
    simp [firstL]
  | cons r t ih =>
    have e1 : wrap64 ((pre.length : Int) + 1) = ((pre ++ [r]).length : Int) := by unfold Fit at hr; rw [w64_nat _ (by rw [hp] at hr; simp at hr; omega)]; simp
    have hlt : (pre.length : Int) < (row.length : Int) := by rw [hp]; simp; omega
    have hget : rd_T26 row (pre.length : Int) = r := by rw [hp]; exact rdT pre t r
    by_cases hc : r.f1 ≥ n
    · refine Ev.step (f := fun _ => some (firstL (r :: t) n)) (fun k => ?_) (Ev.now _)
      simp only [span_First.l0, firstL]
      rw [if_pos hlt, if_pos (by omega), if_pos hlt, hget, if_pos hc, if_pos hc]
    · have hI := ih (pre ++ [r]) (by rw [hp]; simp)
      rw [show firstL (r :: t) n = firstL t n from by simp only [firstL]; rw [if_neg hc]]
      refine Ev.step (fun k => ?_) hI
      simp only [span_First.l0]
      rw [if_pos hlt, if_pos (by omega), if_pos hlt, hget, if_neg hc, e1]
theorem first_ev (l : List S26) (n : Int) (h : Fit l) : Ev (fun k => span_First.f k l n) (firstL (canon l) n) := by
  unfold span_First.f
  exact Ev.bind (norm_ev l h) (first_l0 n (canon l) (canon_norm' l).fit [] (canon l) rfl)

def gapL : List S26 → Int → Int
  | [], g => if g > 1000000000 then 0 else g
  | r :: t, g => if r.f0 ≤ g ∧ g ≤ r.f1 then gapL t (r.f1 + 1) else gapL t g
theorem gap_l0 (row : List S26) (hr : Fit row) (pre suf : List S26) (hp : row = pre ++ suf) : ∀ (g last : Int), NormFrom last suf → -1 ≤ last →
    Ev (fun k => span_Gap.l0 k g row (row.length : Int) (pre.length : Int)) (gapL suf g) := by
  induction suf generalizing pre with
  | nil =>
    intro g last _ _
    refine Ev.step (f := fun _ => some (gapL [] g)) (fun k => ?_) (Ev.now _)
    simp only [span_Gap.l0]
    rw [if_neg (by rw [hp]; simp)]
    simp only [gapL]
    split <;> rfl
  | cons r t ih =>
    intro g last hn hl
    obtain ⟨n1, n2, n3, n4⟩ := hn
    have e1 : wrap64 ((pre.length : Int) + 1) = ((pre ++ [r]).length : Int) := by unfold Fit at hr; rw [w64_nat _ (by rw [hp] at hr; simp at hr; omega)]; simp
    have hlt : (pre.length : Int) < (row.length : Int) := by rw [hp]; simp; omega
    have hget : rd_T26 row (pre.length : Int) = r := by rw [hp]; exact rdT pre t r
    have hI := fun g => ih (pre ++ [r]) (by rw [hp]; simp) g r.f1 n4 (by omega)
    by_cases hc : r.f0 ≤ g ∧ g ≤ r.f1
    · rw [show gapL (r :: t) g = gapL t (r.f1 + 1) from by simp only [gapL]; rw [if_pos hc]]
      refine Ev.step (fun k => ?_) (hI _)
      simp only [span_Gap.l0]
      rw [if_pos hlt, if_pos (by omega), if_pos hlt, hget, if_pos hc.1, if_pos hc.2, e1, w64 (by omega) (by omega)]
    · rw [show gapL (r :: t) g = gapL t g from by simp only [gapL]; rw [if_neg hc]]
      refine Ev.step (fun k => ?_) (hI _)
      simp only [span_Gap.l0]
      rw [if_pos hlt, if_pos (by omega), if_pos hlt, hget, e1]
      split
      · rw [if_neg (by omega)]
      · rfl
theorem gap_ev (l : List S26) (n : Int) (h : Fit l) : Ev (fun k => span_Gap.f k l n) (gapL (canon l) (mx n 1)) := by
  unfold span_Gap.f
  exact Ev.bind (norm_ev l h) (gap_l0 (canon l) (canon_norm' l).fit [] (canon l) rfl _ (-1) (canon_norm' l) (by omega))

end Go.Proofs.Yteldhpneegccjaa.Pure
