/- What printed span functions answer: Within, Order. -/
import Derived.Test.YtmlfbgkaondljaaAlM
import Derived.Test.YtmlfbgkaondljaaGx12
namespace Go.Proofs.Ytmlfbgkaondljaa.Pure
open Go.RowKit Go.Proofs.Ytmlfbgkaondljaa.G Go.Proofs.YtmlfbgkaondljaaW.PrintWords Go.Proofs.YtmlfbgkaondljaaW.PrintLast Go.Proofs.YtmlfbgkaondljaaW.PrintMore
set_option linter.unusedVariables false

theorem norm_nil {l : List S28} (h : Norm l) (he : ∀ n, ¬ Mem l n) : l = [] :=
  Rep.unique (P := fun _ => False) ⟨h, fun n => ⟨he n, fun hf => hf.elim⟩⟩ ⟨trivial, fun n => ⟨mem_nil n, fun hf => hf.elim⟩⟩
theorem rep_nil {l : List S28} {P : Int → Prop} (h : Rep l P) : l.length = 0 ↔ ∀ n, ¬ P n := by
  constructor
  · intro hl n hn
    have : l = [] := List.eq_nil_of_length_eq_zero hl
    subst this
    exact mem_nil n ((h.2 n).2 hn)
  · intro hn
    rw [norm_nil h.1 (fun n hm => hn n ((h.2 n).1 hm))]
    rfl
theorem within_ev (a b : List S28) (ha : Fit a) (hb : Fit b) : ∃ p : Bool, Ev (fun k => span_Within.f k a b) p ∧ (p = true ↔ ∀ n, Mem a n → Mem b n) := by
  obtain ⟨R, hR, hRep⟩ := minus_ev a b ha hb
  refine ⟨((R.length : Int) == 0), ?_, ?_⟩
  · unfold span_Within.f
    exact Ev.bind hR (Ev.now _)
  · rw [beq_iff_eq]
    have h := rep_nil hRep
    constructor
    · intro h0 n hn
      exact Classical.byContradiction fun hb => h.1 (by omega) n ⟨hn, hb⟩
    · intro h0
      have := h.2 (fun n hn => hn.2 (h0 n hn.1))
      omega
end Go.Proofs.Ytmlfbgkaondljaa.Pure
