/- What printed span functions answer: Rank, Pick. -/
import Derived.Test.YteldhpneegccjaaAl2
import Derived.Test.YteldhpneegccjaaGx11
import Derived.Test.YteldhpneegccjaaGx12
namespace Go.Proofs.Yteldhpneegccjaa.Pure
open Go.RowKit Go.Proofs.Yteldhpneegccjaa.G Go.Proofs.YteldhpneegccjaaW.PrintWords Go.Proofs.YteldhpneegccjaaW.PrintLast Go.Proofs.YteldhpneegccjaaW.PrintMore
set_option linter.unusedVariables false

theorem rank_l0 (n : Int) (row : List S26) (hr : Fit row) (pre suf : List S26) (hp : row = pre ++ suf) : ∀ (x last : Int), NormFrom last suf → -1 ≤ last → 0 ≤ x → x ≤ last + 1 →
    Ev (fun k => span_Rank.l0 k n x row (row.length : Int) (pre.length : Int)) (x + rankL suf n) := by
  induction suf generalizing pre with
  | nil =>
    intro x last _ _ _ _
    refine Ev.step (f := fun _ => some (x + rankL [] n)) (fun k => ?_) (Ev.now _)
    simp only [span_Rank.l0]
    rw [if_neg (by rw [hp]; simp)]
    simp [rankL]
  | cons r t ih =>
    intro x last hn hl h0 h2
    have hn' := hn
    obtain ⟨n1, n2, n3, n4⟩ := hn
    have e1 : wrap64 ((pre.length : Int) + 1) = ((pre ++ [r]).length : Int) := by unfold Fit at hr; rw [w64_nat _ (by rw [hp] at hr; simp at hr; omega)]; simp
    have hlt : (pre.length : Int) < (row.length : Int) := by rw [hp]; simp; omega
    have hget : rd_T26 row (pre.length : Int) = r := by rw [hp]; exact rdT pre t r
    by_cases hc : r.f0 > n
    · refine Ev.step (f := fun _ => some (x + rankL (r :: t) n)) (fun k => ?_) (Ev.now _)
      simp only [span_Rank.l0]
      rw [if_pos hlt, if_pos (by omega), if_pos hlt, hget, if_pos hc, rankL_high (l := r :: t) (last := r.f0 - 2) (show _ ∧ _ ∧ _ ∧ _ from ⟨by omega, n2, n3, n4⟩) (by omega), Int.add_zero]
    · have em : mn r.f1 n = if r.f1 ≤ n then r.f1 else n := by unfold mn; split <;> split <;> omega
      have hb : r.f0 ≤ mn r.f1 n ∧ mn r.f1 n ≤ r.f1 := by rw [em]; split <;> omega
      have hI := ih (pre ++ [r]) (by rw [hp]; simp) (x + (mn r.f1 n - r.f0 + 1)) r.f1 n4 (by omega) (by omega) (by omega)
      rw [show x + rankL (r :: t) n = x + (mn r.f1 n - r.f0 + 1) + rankL t n from by simp only [rankL]; rw [if_pos (by omega), ← em]; omega]
      refine Ev.step (fun k => ?_) hI
      simp only [span_Rank.l0]
      rw [if_pos hlt, if_pos (by omega), if_pos hlt, hget, if_neg hc, e1, w64 (x := mn r.f1 n - r.f0) (by omega) (by omega), w64 (x := mn r.f1 n - r.f0 + 1) (by omega) (by omega), w64 (by omega) (by omega)]
theorem rank_ev (l : List S26) (n : Int) (h : Fit l) : Ev (fun k => span_Rank.f k l n) (rankL (canon l) n) := by
  unfold span_Rank.f
  refine Ev.bind (norm_ev l h) ?_
  have := rank_l0 n (canon l) (canon_norm' l).fit [] (canon l) rfl 0 (-1) (canon_norm' l) (by omega) (by omega) (by omega)
  rw [Int.zero_add] at this
  exact this

def pickL : List S26 → Int → Int
  | [], _ => 0
  | r :: t, n => if n ≤ r.f1 - r.f0 + 1 then r.f0 + n - 1 else pickL t (n - (r.f1 - r.f0 + 1))
theorem pick_l0 (row : List S26) (hr : Fit row) (pre suf : List S26) (hp : row = pre ++ suf) : ∀ (n last : Int), NormFrom last suf → -1 ≤ last → 1 ≤ n → n < 9223372036854775808 →
    Ev (fun k => span_Pick.l0 k n row (row.length : Int) (pre.length : Int)) (pickL suf n) := by
  induction suf generalizing pre with
  | nil =>
    intro n last _ _ _ _
    refine Ev.step (f := fun _ => some (pickL [] n)) (fun k => ?_) (Ev.now _)
    simp only [span_Pick.l0]
    rw [if_neg (by rw [hp]; simp)]
    simp [pickL]
  | cons r t ih =>
    intro n last hn hl h0 h2
    obtain ⟨n1, n2, n3, n4⟩ := hn
    have e1 : wrap64 ((pre.length : Int) + 1) = ((pre ++ [r]).length : Int) := by unfold Fit at hr; rw [w64_nat _ (by rw [hp] at hr; simp at hr; omega)]; simp
    have hlt : (pre.length : Int) < (row.length : Int) := by rw [hp]; simp; omega
    have hget : rd_T26 row (pre.length : Int) = r := by rw [hp]; exact rdT pre t r
    by_cases hc : n ≤ r.f1 - r.f0 + 1
    · refine Ev.step (f := fun _ => some (pickL (r :: t) n)) (fun k => ?_) (Ev.now _)
      simp only [span_Pick.l0, pickL]
      rw [if_pos hlt, if_pos (by omega), if_pos hlt, hget, w64 (x := r.f1 - r.f0) (by omega) (by omega), w64 (x := r.f1 - r.f0 + 1) (by omega) (by omega), if_pos hc, if_pos hc, w64 (x := r.f0 + n) (by omega) (by omega), w64 (by omega) (by omega)]
    · have hI := ih (pre ++ [r]) (by rw [hp]; simp) (n - (r.f1 - r.f0 + 1)) r.f1 n4 (by omega) (by omega) (by omega)
      rw [show pickL (r :: t) n = pickL t (n - (r.f1 - r.f0 + 1)) from by simp only [pickL]; rw [if_neg hc]]
      refine Ev.step (fun k => ?_) hI
      simp only [span_Pick.l0]
      rw [if_pos hlt, if_pos (by omega), if_pos hlt, hget, w64 (x := r.f1 - r.f0) (by omega) (by omega), w64 (x := r.f1 - r.f0 + 1) (by omega) (by omega), if_neg hc, e1, w64 (by omega) (by omega)]
theorem pick_ev (l : List S26) (n : Int) (h : Fit l) (hn : n < 9223372036854775808) : Ev (fun k => span_Pick.f k l n) (if n < 1 then 0 else pickL (canon l) n) := by
  unfold span_Pick.f
  by_cases hc : n < 1
  · simp only [if_pos hc]; exact Ev.now _
  · simp only [if_neg hc]
    refine Ev.bind (norm_ev l h) ?_
    exact pick_l0 (canon l) (canon_norm' l).fit [] (canon l) rfl n (-1) (canon_norm' l) (by omega) (by omega) hn

end Go.Proofs.Yteldhpneegccjaa.Pure
