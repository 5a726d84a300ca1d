/- What printed span functions answer: Norm, Size, Has. -/
import Derived.Test.YtmlfbgkaondljaaAl1
import Derived.Test.YtmlfbgkaondljaaHas
import Derived.Test.YtmlfbgkaondljaaGx6
import Derived.Test.YtmlfbgkaondljaaGx11
namespace Go.Proofs.Ytmlfbgkaondljaa.Pure
open Go.RowKit Go.Proofs.Ytmlfbgkaondljaa.G Go.Proofs.YtmlfbgkaondljaaW.PrintWords Go.Proofs.YtmlfbgkaondljaaW.PrintLast Go.Proofs.YtmlfbgkaondljaaW.PrintMore
set_option linter.unusedVariables false

theorem Ev.succ {α : Type} {g : Nat → Option α} {r : α} (h : Ev (fun k => g (k + 1)) r) : Ev g r := Ev.step (f := fun k => g (k + 1)) (fun _ => rfl) h
abbrev Fit (l : List S28) : Prop := l.length ≤ 8796093022208
theorem Norm.fit {l : List S28} (h : Norm l) : Fit l := by have := h.len; unfold Fit; omega

theorem norm_ev (l : List S28) (h : Fit l) : Ev (fun k => span_Norm.f k l) (canon l) := by
  unfold span_Norm.f
  refine Ev.bind (a := canon l) ?_ (Ev.now _)
  have := union_ev [l] (by simp) (by simp; exact h) (by simp; exact Nat.le_trans (clips_len l) h)
  simpa using this

theorem size_l0 (row : List S28) (hr : Fit row) (pre suf : List S28) (hp : row = pre ++ suf) : ∀ (x last : Int), NormFrom last suf → -1 ≤ last → 0 ≤ x → x ≤ 1000000000 * 1000000000 → x ≤ last + 1 →
    Ev (fun k => span_Size.l0 k x row (row.length : Int) (pre.length : Int)) (x + sizeL suf) := by
  induction suf generalizing pre with
  | nil =>
    intro x last _ _ _ _ _
    refine Ev.step (f := fun _ => some (x + sizeL [])) (fun k => ?_) (Ev.now _)
    simp only [span_Size.l0]
    rw [if_neg (by rw [hp]; simp)]
    simp [sizeL]
  | cons r t ih =>
    intro x last hn hl h0 h1 h2
    obtain ⟨n1, n2, n3, n4⟩ := hn
    have e1 : wrap64 ((pre.length : Int) + 1) = ((pre ++ [r]).length : Int) := by unfold Fit at hr; rw [w64_nat _ (by rw [hp] at hr; simp at hr; omega)]; simp
    have hlt : (pre.length : Int) < (row.length : Int) := by rw [hp]; simp; omega
    have hget : rd_T28 row (pre.length : Int) = r := by rw [hp]; exact rdT pre t r
    have hI := ih (pre ++ [r]) (by rw [hp]; simp) (x + (r.f1 - r.f0 + 1)) r.f1 n4 (by omega) (by omega) (by omega) (by omega)
    rw [show x + sizeL (r :: t) = x + (r.f1 - r.f0 + 1) + sizeL t from by simp only [sizeL]; omega]
    refine Ev.step (fun k => ?_) hI
    simp only [span_Size.l0]
    rw [if_pos hlt, if_pos (by omega), if_pos hlt, hget, e1, w64 (x := r.f1 - r.f0) (by omega) (by omega), w64 (x := r.f1 - r.f0 + 1) (by omega) (by omega), w64 (by omega) (by omega)]
theorem size_ev (l : List S28) (h : Fit l) : Ev (fun k => span_Size.f k l) (sizeL (canon l)) := by
  unfold span_Size.f
  refine Ev.bind (norm_ev l h) ?_
  have := size_l0 (canon l) (canon_norm' l).fit [] (canon l) rfl 0 (-1) (canon_norm' l) (by omega) (by omega) (by omega) (by omega)
  rw [Int.zero_add] at this
  exact this

theorem has_eq (l : List S28) (n : Int) : span_Has.f l n = some (memB l n) := by
  unfold span_Has.f memB
  by_cases h : 1 ≤ n ∧ n ≤ 1000000000
  · rw [if_pos h, decide_eq_true h.1, decide_eq_true h.2]
    rfl
  · rw [if_neg h]
    rcases Int.lt_or_le n 1 with h1 | h1
    · rw [decide_eq_false (by omega)]; rfl
    · rw [decide_eq_false (p := n ≤ 1000000000) (by omega), Bool.and_false, Bool.false_and]

end Go.Proofs.Ytmlfbgkaondljaa.Pure
