/- SpanOrders in plain Lean. -/
import Derived.Test.YteldhpneegccjaaAlW
import Derived.Test.YteldhpneegccjaaSw3
import Derived.Test.YteldhpneegccjaaGx52
import Derived.Test.YteldhpneegccjaaBr
namespace Go.Proofs.Yteldhpneegccjaa.Pure
open Go.RowKit Go.Proofs.Yteldhpneegccjaa.G Go.Proofs.YteldhpneegccjaaW.PrintWords Go.Proofs.YteldhpneegccjaaW.PrintLast Go.Proofs.YteldhpneegccjaaW.PrintMore
set_option linter.unusedVariables false

theorem refWithin (a b : List S26) (h : a.length + b.length ≤ 2097152) : ∃ p : Bool, Ev (fun k => barrowref01_Within.f k a b) p ∧ (p = true ↔ ∀ n, Mem a n → Mem b n) := by
  obtain ⟨R, hR, hRep, lR⟩ := sweep_minus a b h
  refine ⟨((R.length : Int) == 0), ?_, ?_⟩
  · unfold barrowref01_Within.f barrowref01_Minus.f
    exact Ev.bind (Ev.bind hR (Ev.now _)) (Ev.now _)
  · rw [beq_iff_eq]
    have h := rep_nil hRep
    constructor
    · intro h0 n hn
      exact Classical.byContradiction fun hb => h.1 (by omega) n ⟨hn, hb⟩
    · intro h0
      have := h.2 (fun n hn => hn.2 (h0 n hn.1))
      omega
theorem refOrder (a b : List S26) {p q : Bool} (hp : Ev (fun k => barrowref01_Within.f k a b) p) (hq : Ev (fun k => barrowref01_Within.f k b a) q) : Ev (fun k => barrowref01_Order.f k a b) (orderV p q) := by
  unfold barrowref01_Order.f
  refine Ev.bind hp (Ev.bind hq ?_)
  cases p <;> cases q <;> (refine Ev.succ ?_; simp [barrowref01_Order.j0, orderV]; exact Ev.now _)
theorem SpanOrders (l0 l1 : List S26) (h0 : l0.length ≤ 349525) (w0 : Br.WfR l0) (h1 : l1.length ≤ 349525) (w1 : Br.WfR l1) : ∃ k, barrowlaw01_SpanOrders.f k l0 l1 = some true := by
  apply Ev.rounds
  unfold barrowlaw01_SpanOrders.f
  have f0 : Fit l0 := by unfold Fit; omega
  have f1 : Fit l1 := by unfold Fit; omega
  obtain ⟨p, hp, ip⟩ := within_ev l0 l1 f0 f1
  obtain ⟨q, hq, iq⟩ := within_ev l1 l0 f1 f0
  obtain ⟨p', hp', ip'⟩ := refWithin l0 l1 (by omega)
  obtain ⟨q', hq', iq'⟩ := refWithin l1 l0 (by omega)
  have ep : p = p' := by rw [Bool.eq_iff_iff, ip, ip']
  have eq : q = q' := by rw [Bool.eq_iff_iff, iq, iq']
  subst ep; subst eq
  obtain ⟨x, hx, ix⟩ := within_ev [(⟨1, 3⟩ : S26)] [⟨2, 4⟩] (by simp [Fit]) (by simp [Fit])
  obtain ⟨y, hy, iy⟩ := within_ev [(⟨2, 4⟩ : S26)] [⟨1, 3⟩] (by simp [Fit]) (by simp [Fit])
  obtain ⟨z, hz, iz⟩ := within_ev [] [] (by simp [Fit]) (by simp [Fit])
  have hx0 : x = false := by
    rw [Bool.eq_false_iff]
    intro h
    have := ix.1 h 1 ((mem_cons _ _ _).2 (.inl (by simp)))
    rw [mem_cons] at this
    simp [mem_nil] at this
  have hy0 : y = false := by
    rw [Bool.eq_false_iff]
    intro h
    have := iy.1 h 4 ((mem_cons _ _ _).2 (.inl (by simp)))
    rw [mem_cons] at this
    simp [mem_nil] at this
  have hz0 : z = true := iz.2 (fun n h => h)
  subst hx0; subst hy0; subst hz0
  refine Ev.bind (order_of _ _ hx hy) ?_
  have e3 : orderV false false = 3 := by simp [orderV]
  simp only [e3, if_true]
  refine Ev.bind hz ?_
  refine Ev.succ ?_
  simp only [barrowlaw01_SpanOrders.j0, Bool.not_true, Bool.false_eq_true, if_false]
  refine Ev.bind hp' (Ev.bind (refOrder _ _ hp' hq') (Ev.bind hp ?_))
  simp only [beq_self_eq_true, if_true]
  refine Ev.bind (order_of _ _ hp hq) ?_
  simp only [beq_self_eq_true]
  exact Ev.now _
end Go.Proofs.Yteldhpneegccjaa.Pure
