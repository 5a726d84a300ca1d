/- What printed span functions answer: Norm. -/
import Derived.Test.YtcblhfnjcanliaaAl1
import Derived.Test.YtcblhfnjcanliaaGx9
namespace Go.Proofs.Ytcblhfnjcanliaa.Pure
open Go.RowKit Go.Proofs.Ytcblhfnjcanliaa.G Go.Proofs.YtcblhfnjcanliaaW.PrintWords Go.Proofs.YtcblhfnjcanliaaW.PrintLast Go.Proofs.YtcblhfnjcanliaaW.PrintMore
set_option linter.unusedVariables false

theorem Ev.succ {α : Type} {g : Nat → Option α} {r : α} (h : Ev (fun k => g (k + 1)) r) : Ev g r := Ev.step (f := fun k => g (k + 1)) (fun _ => rfl) h
abbrev Fit (l : List S24) : Prop := l.length ≤ 8796093022208
theorem Norm.fit {l : List S24} (h : Norm l) : Fit l := by have := h.len; unfold Fit; omega

theorem norm_ev (l : List S24) (h : Fit l) : Ev (fun k => span_Norm.f k l) (canon l) := by
  unfold span_Norm.f
  refine Ev.bind (a := canon l) ?_ (Ev.now _)
  have := union_ev [l] (by simp) (by simp; exact h) (by simp; exact Nat.le_trans (clips_len l) h)
  simpa using this

end Go.Proofs.Ytcblhfnjcanliaa.Pure
