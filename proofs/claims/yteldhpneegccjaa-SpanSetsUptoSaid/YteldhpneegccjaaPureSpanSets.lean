/- SpanSets in plain Lean. -/
import Derived.Test.YteldhpneegccjaaAlM
import Derived.Test.YteldhpneegccjaaAlX
import Derived.Test.YteldhpneegccjaaAlE
import Derived.Test.YteldhpneegccjaaSw3
import Derived.Test.YteldhpneegccjaaGx38
import Derived.Test.YteldhpneegccjaaBr
namespace Go.Proofs.Yteldhpneegccjaa.Pure
open Go.RowKit Go.Proofs.Yteldhpneegccjaa.G Go.Proofs.YteldhpneegccjaaW.PrintWords Go.Proofs.YteldhpneegccjaaW.PrintLast Go.Proofs.YteldhpneegccjaaW.PrintMore
set_option linter.unusedVariables false

theorem SpanSets (l0 l1 : List S26) (h0 : l0.length ≤ 349525) (w0 : Br.WfR l0) (h1 : l1.length ≤ 349525) (w1 : Br.WfR l1) : ∃ k, barrowlaw01_SpanSets.f k l0 l1 = some true := by
  apply Ev.rounds
  unfold barrowlaw01_SpanSets.f
  have f0 : Fit l0 := by unfold Fit; omega
  have f1 : Fit l1 := by unfold Fit; omega
  have hU := sweep_union [l0, l1] (by simp) (by simp; omega)
  obtain ⟨M, hM, rM, lM⟩ := sweep_meet l0 l1 (by omega)
  obtain ⟨D, hD, rD, lD⟩ := sweep_minus l0 l1 (by omega)
  obtain ⟨M', hM', rM'⟩ := meet_ev l0 l1 f0 f1
  obtain ⟨D', hD', rD'⟩ := minus_ev l0 l1 f0 f1
  have eM : M' = M := Rep.unique rM' rM
  have eD : D' = D := Rep.unique rD' rD
  subst eM; subst eD
  have hc := clips_len ([l0, l1] : List (List S26)).flatten
  have hU' := union_ev [l0, l1] (by simp) (by intro x hx; simp at hx; rcases hx with rfl | rfl <;> omega) (by simp at hc ⊢; omega)
  refine Ev.bind awake_ev ?_
  simp only [if_true]
  unfold barrowref01_Union.f barrowref01_Meet.f barrowref01_Minus.f
  refine Ev.bind (Ev.bind hU (Ev.now _)) (Ev.bind (Ev.bind hM (Ev.now _)) (Ev.bind (Ev.bind hD (Ev.now _)) (Ev.bind hU' ?_)))
  refine Ev.bind (eq_ev _ _ (canon_norm' _).fit) ?_
  rw [decide_eq_true rfl]
  simp only [if_true]
  refine Ev.bind hM' (Ev.bind (eq_ev _ _ rM'.1.fit) ?_)
  rw [decide_eq_true rfl]
  simp only [if_true]
  refine Ev.bind hD' (Ev.bind (eq_ev _ _ rD'.1.fit) ?_)
  rw [decide_eq_true rfl]
  exact Ev.now _
end Go.Proofs.Yteldhpneegccjaa.Pure
