/- SpanChanges in plain Lean. -/
import Derived.Test.YteldhpneegccjaaAlP
import Derived.Test.YteldhpneegccjaaAlE
import Derived.Test.YteldhpneegccjaaSw3
import Derived.Test.YteldhpneegccjaaGx47
import Derived.Test.YteldhpneegccjaaBr
namespace Go.Proofs.Yteldhpneegccjaa.Pure
open Go.RowKit Go.Proofs.Yteldhpneegccjaa.G Go.Proofs.YteldhpneegccjaaW.PrintWords Go.Proofs.YteldhpneegccjaaW.PrintLast Go.Proofs.YteldhpneegccjaaW.PrintMore
set_option linter.unusedVariables false

theorem SpanChanges (l0 : List S26) (a1 : Int) (h0 : l0.length ≤ 349525) (w0 : Br.WfR l0) (w1 : (Lit.int .i64 a1).wf = true) : ∃ k, barrowlaw01_SpanChanges.f k l0 a1 = some true := by
  apply Ev.rounds
  unfold barrowlaw01_SpanChanges.f
  have f0 : Fit l0 := by unfold Fit; omega
  have hP := put_ev [] 7 (by simp)
  have n7 : Norm [(⟨7, 7⟩ : S26)] := by simp [Norm, NormFrom]
  rw [if_pos (by decide), List.nil_append, canon_norm n7] at hP
  refine Ev.bind hP ?_
  have e : rd_T26 [(⟨7, 7⟩ : S26)] 0 = ⟨7, 7⟩ := rfl
  have e2 : (([(⟨7, 7⟩ : S26)].length : Int)) = 1 := rfl
  simp only [e, e2, if_true]
  simp only [if_pos (show (0 : Int) < 1 by decide), show ((7 : Int) != 7) = false from rfl]
  refine Ev.succ ?_
  simp only [barrowlaw01_SpanChanges.j0, Bool.false_eq_true, if_false]
  have hput := put_ev l0 a1 (by omega)
  obtain ⟨D, rD, hdrop⟩ := drop_ev l0 a1 f0
  by_cases hv : 1 ≤ a1 ∧ a1 ≤ 1000000000
  · rw [if_pos hv] at hput hdrop
    have hU := sweep_union [l0, [⟨a1, a1⟩]] (by simp) (by simp; omega)
    have eU : ([l0, [⟨a1, a1⟩]] : List (List S26)).flatten = l0 ++ [⟨a1, a1⟩] := by simp
    rw [eU] at hU
    obtain ⟨M, hM, rM, lM⟩ := sweep_minus l0 [⟨a1, a1⟩] (by simp; omega)
    have eM : D = M := Rep.unique rD rM
    subst eM
    have hrp : Ev (fun k => barrowref01_Put.f k l0 a1) (canon (l0 ++ [⟨a1, a1⟩]), 0) := by
      unfold barrowref01_Put.f
      simp only [if_neg (show ¬ a1 < 1 by omega)]
      rw [decide_eq_false (show ¬ a1 > 1000000000 by omega)]
      refine Ev.succ ?_
      simp only [barrowref01_Put.j0, Bool.false_eq_true, if_false]
      unfold barrowref01_one.f barrowref01_Union.f
      simp only [Option.bind_some]
      exact Ev.bind (Ev.bind hU (Ev.now _)) (Ev.now _)
    have hrd : Ev (fun k => barrowref01_Drop.f k l0 a1) (D, 0) := by
      unfold barrowref01_Drop.f
      simp only [if_neg (show ¬ a1 < 1 by omega)]
      rw [decide_eq_false (show ¬ a1 > 1000000000 by omega)]
      refine Ev.succ ?_
      simp only [barrowref01_Drop.j0, Bool.false_eq_true, if_false]
      unfold barrowref01_one.f barrowref01_Minus.f
      simp only [Option.bind_some]
      exact Ev.bind (Ev.bind hM (Ev.now _)) (Ev.now _)
    refine Ev.bind hrp (Ev.bind hrd (Ev.bind hput ?_))
    simp only [if_true]
    refine Ev.bind (eq_ev _ _ (canon_norm' _).fit) ?_
    rw [decide_eq_true rfl]
    refine Ev.succ ?_
    simp only [barrowlaw01_SpanChanges.j1, Bool.not_true, Bool.false_eq_true, if_false]
    refine Ev.bind hdrop ?_
    simp only [if_true]
    refine Ev.bind (eq_ev _ _ rD.1.fit) ?_
    rw [decide_eq_true rfl]
    exact Ev.now _
  · rw [if_neg hv] at hput hdrop
    have hrp : Ev (fun k => barrowref01_Put.f k l0 a1) ([], 2) := by
      unfold barrowref01_Put.f
      by_cases h1 : a1 < 1
      · simp only [if_pos h1]
        refine Ev.succ ?_
        simp only [barrowref01_Put.j0, if_true]
        exact Ev.now _
      · simp only [if_neg h1]
        rw [decide_eq_true (show a1 > 1000000000 by omega)]
        refine Ev.succ ?_
        simp only [barrowref01_Put.j0, if_true]
        exact Ev.now _
    have hrd : Ev (fun k => barrowref01_Drop.f k l0 a1) ([], 2) := by
      unfold barrowref01_Drop.f
      by_cases h1 : a1 < 1
      · simp only [if_pos h1]
        refine Ev.succ ?_
        simp only [barrowref01_Drop.j0, if_true]
        exact Ev.now _
      · simp only [if_neg h1]
        rw [decide_eq_true (show a1 > 1000000000 by omega)]
        refine Ev.succ ?_
        simp only [barrowref01_Drop.j0, if_true]
        exact Ev.now _
    refine Ev.bind hrp (Ev.bind hrd (Ev.bind hput ?_))
    simp only [if_true]
    refine Ev.bind (eq_ev [] [] (by simp [Fit])) ?_
    rw [decide_eq_true rfl]
    refine Ev.succ ?_
    simp only [barrowlaw01_SpanChanges.j1, Bool.not_true, Bool.false_eq_true, if_false]
    refine Ev.bind hdrop ?_
    simp only [if_true]
    refine Ev.bind (eq_ev [] [] (by simp [Fit])) ?_
    rw [decide_eq_true rfl]
    exact Ev.now _
end Go.Proofs.Yteldhpneegccjaa.Pure
