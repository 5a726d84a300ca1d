/- What printed span functions answer: Equal. -/
import Derived.Test.YtlmdcpooogaolaaDoorAl0
import Derived.Test.YtlmdcpooogaolaaDoorGx16
namespace Go.Proofs.YtlmdcpooogaolaaDoor.Pure
open Go.RowKit Go.Proofs.YtlmdcpooogaolaaDoor.G Go.Proofs.YtlmdcpooogaolaaDoorW.PrintWords Go.Proofs.YtlmdcpooogaolaaDoorW.PrintLast Go.Proofs.YtlmdcpooogaolaaDoorW.PrintMore
set_option linter.unusedVariables false

instance : DecidableEq S32 := fun a b => if h : a.f0 = b.f0 ∧ a.f1 = b.f1 then isTrue (by cases a; cases b; simp only at h; rw [h.1, h.2]) else isFalse (fun e => h (by rw [e]; exact ⟨rfl, rfl⟩))
theorem eq_l0 (a b : List S32) (hab : a.length = b.length) (hr : Fit a) (pa sa pb sb : List S32) (ha : a = pa ++ sa) (hb : b = pb ++ sb) (hl : pa.length = pb.length) :
    Ev (fun k => barrowref01_Equal.l0 k a b (pa.length : Int)) (decide (sa = sb)) := by
  induction sa generalizing pa pb sb with
  | nil =>
    have : sb = [] := by
      apply List.eq_nil_of_length_eq_zero
      rw [ha, hb] at hab
      simp at hab
      omega
    subst this
    refine Ev.step (f := fun _ => some (decide (([] : List S32) = []))) (fun k => ?_) (Ev.now _)
    simp only [barrowref01_Equal.l0]
    rw [if_neg (by rw [ha]; simp)]
    rfl
  | cons r t ih =>
    cases sb with
    | nil => exfalso; rw [ha, hb] at hab; simp at hab; omega
    | cons s u =>
      have e1 : wrap64 ((pa.length : Int) + 1) = ((pa ++ [r]).length : Int) := by unfold Fit at hr; rw [w64_nat _ (by rw [ha] at hr; simp at hr; omega)]; simp
      have hlt : (pa.length : Int) < (a.length : Int) := by rw [ha]; simp; omega
      have hlt2 : (pa.length : Int) < (b.length : Int) := by rw [← hab]; exact hlt
      have hget : rd_T32 a (pa.length : Int) = r := by rw [ha]; exact rdT pa t r
      have hget2 : rd_T32 b (pa.length : Int) = s := by rw [hb, hl]; exact rdT pb u s
      have hI := ih (pa ++ [r]) (pb ++ [s]) u (by rw [ha]; simp) (by rw [hb]; simp) (by simp [hl])
      by_cases hc : r = s
      · subst hc
        rw [show decide (r :: t = r :: u) = decide (t = u) from by simp]
        refine Ev.step (fun k => ?_) hI
        simp only [barrowref01_Equal.l0]
        rw [if_pos hlt, if_pos (by omega), if_pos hlt2, hget, hget2, if_pos rfl, if_pos rfl, e1]
      · refine Ev.step (f := fun _ => some (decide (r :: t = s :: u))) (fun k => ?_) (Ev.now _)
        rw [show decide (r :: t = s :: u) = false from by simp [hc]]
        simp only [barrowref01_Equal.l0]
        rw [if_pos hlt, if_pos (by omega), if_pos hlt2, hget, hget2]
        split
        · rename_i h1
          split
          · rename_i h2
            exact absurd (by cases r; cases s; simp_all) hc
          · rfl
        · rfl
theorem eq_ev (a b : List S32) (h : Fit a) : Ev (fun k => barrowref01_Equal.f k a b) (decide (a = b)) := by
  unfold barrowref01_Equal.f
  by_cases hl : (a.length : Int) = (b.length : Int)
  · simp only [if_pos hl]
    exact eq_l0 a b (by omega) h [] a [] b rfl rfl rfl
  · simp only [if_neg hl]
    rw [show decide (a = b) = false from by rw [decide_eq_false_iff_not]; intro e; rw [e] at hl; exact hl rfl]
    exact Ev.now _
end Go.Proofs.YtlmdcpooogaolaaDoor.Pure
