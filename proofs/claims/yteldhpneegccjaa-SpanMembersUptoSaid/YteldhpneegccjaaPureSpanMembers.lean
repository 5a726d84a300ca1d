/- SpanMembers in plain Lean. -/
import Derived.Test.YteldhpneegccjaaAlW
import Derived.Test.YteldhpneegccjaaGx53
import Derived.Test.YteldhpneegccjaaBr
namespace Go.Proofs.Yteldhpneegccjaa.Pure
open Go.RowKit Go.Proofs.Yteldhpneegccjaa.G Go.Proofs.YteldhpneegccjaaW.PrintWords Go.Proofs.YteldhpneegccjaaW.PrintLast Go.Proofs.YteldhpneegccjaaW.PrintMore
set_option linter.unusedVariables false
theorem union2_ev (a b : List S26) (ha : a.length ≤ 349525) (hb : b.length ≤ 349525) : Ev (fun k => span_Union.f k [a, b]) (canon (a ++ b)) := by
  have hc := clips_len ([a, b] : List (List S26)).flatten
  have := union_ev [a, b] (by simp) (by intro x hx; simp at hx; rcases hx with rfl | rfl <;> omega) (by simp at hc ⊢; omega)
  simpa using this
theorem SpanMembers (l0 l1 : List S26) (a2 : Int) (h0 : l0.length ≤ 349525) (w0 : Br.WfR l0) (h1 : l1.length ≤ 349525) (w1 : Br.WfR l1) (w2 : (Lit.int .i64 a2).wf = true) : ∃ k, barrowlaw01_SpanMembers.f k l0 l1 a2 = some true := by
  apply Ev.rounds
  unfold barrowlaw01_SpanMembers.f
  have f0 : Fit l0 := by unfold Fit; omega
  have f1 : Fit l1 := by unfold Fit; omega
  refine Ev.bind awake_ev ?_
  have e5 : span_Has.f [(⟨1, 9⟩ : S26)] 5 = some true := by rw [has_eq]; decide
  simp only [if_true, e5, Option.bind_some, Bool.not_true]
  obtain ⟨M, hM, rM⟩ := meet_ev l0 l1 f0 f1
  obtain ⟨D, hD, rD⟩ := minus_ev l0 l1 f0 f1
  obtain ⟨p, hp, ip⟩ := within_ev l0 l1 f0 f1
  obtain ⟨x, hx⟩ : ∃ x, memB l0 a2 = x := ⟨_, rfl⟩
  obtain ⟨y, hy⟩ : ∃ y, memB l1 a2 = y := ⟨_, rfl⟩
  have eU : memB (canon (l0 ++ l1)) a2 = (x || y) := by
    rw [← hx, ← hy, Bool.eq_iff_iff, Bool.or_eq_true, memB_iff, memB_iff, memB_iff, canon_mem, mem_append]
  have eM : memB M a2 = (x && y) := by
    rw [← hx, ← hy, Bool.eq_iff_iff, Bool.and_eq_true, memB_iff, memB_iff, memB_iff, rM.2]
  have eD : memB D a2 = (x && !y) := by
    have h2 : Mem D a2 ↔ Mem l0 a2 ∧ ¬ Mem l1 a2 := rD.2 a2
    rw [← hx, ← hy, Bool.eq_iff_iff, Bool.and_eq_true, Bool.not_eq_true', memB_iff, memB_iff, h2, ← memB_iff l1 a2]
    simp
  have hin : x = true → 1 ≤ a2 ∧ a2 ≤ 1000000000 := by
    intro h
    rw [h] at hx
    have := (memB_iff l0 a2).1 hx
    exact ⟨this.1, this.2.1⟩
  have hpy : p = true → x = true → y = true := by
    intro h1 h2
    rw [h2] at hx
    rw [← hy]
    exact (memB_iff l1 a2).2 (ip.1 h1 a2 ((memB_iff l0 a2).1 hx))
  have key : Ev (fun k => barrowlaw01_SpanMembers.j1 k l0 l1 a2 x y false) true := by
    refine Ev.succ ?_
    simp only [barrowlaw01_SpanMembers.j1, Bool.false_eq_true, if_false]
    refine Ev.bind hp ?_
    cases p <;> cases x
    · simp only [Bool.false_eq_true, if_false]; exact Ev.now _
    · have := hin rfl
      simp only [Bool.false_eq_true, if_false, if_true, if_pos (show a2 ≥ 1 by omega)]
      rw [decide_eq_true this.2]
      exact Ev.now _
    · simp only [Bool.false_eq_true, if_false, if_true]; exact Ev.now _
    · have := hin rfl
      have hy' := hpy rfl rfl
      subst hy'
      simp only [if_true, if_pos (show a2 ≥ 1 by omega)]
      rw [decide_eq_true this.2]
      exact Ev.now _
  refine Ev.succ ?_
  simp only [barrowlaw01_SpanMembers.j0, Bool.false_eq_true, if_false, has_eq, hx, hy, Option.bind_some]
  refine Ev.bind (union2_ev l0 l1 h0 h1) ?_
  simp only [eU]
  cases x
  · simp only [Bool.false_eq_true, if_false, Bool.false_or]
    have e : (y != y) = false := by cases y <;> rfl
    simp only [e, Bool.false_eq_true, if_false]
    refine Ev.bind hM ?_
    simp only [eM, Bool.false_and]
    refine Ev.bind hD ?_
    simp only [eD, Bool.false_and]
    exact key
  · simp only [if_true, Bool.true_or]
    have e : (true != true) = false := rfl
    simp only [e, Bool.false_eq_true, if_false]
    refine Ev.bind hM ?_
    have e2 : (y != y) = false := by cases y <;> rfl
    simp only [eM, Bool.true_and, e2, Bool.false_eq_true, if_false]
    refine Ev.bind hD ?_
    have e3 : ((!y) != (!y)) = false := by cases y <;> rfl
    simp only [eD, Bool.true_and, e3]
    exact key
end Go.Proofs.Yteldhpneegccjaa.Pure
