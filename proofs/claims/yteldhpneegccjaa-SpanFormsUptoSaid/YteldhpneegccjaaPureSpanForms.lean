/- PureSpanForms in plain Lean. -/
import Derived.Test.YteldhpneegccjaaAlX
import Derived.Test.YteldhpneegccjaaAlE
import Derived.Test.YteldhpneegccjaaAlI
import Derived.Test.YteldhpneegccjaaRfN
import Derived.Test.YteldhpneegccjaaGx26
import Derived.Test.YteldhpneegccjaaBr
namespace Go.Proofs.Yteldhpneegccjaa.Pure
open Go.RowKit Go.Proofs.Yteldhpneegccjaa.G Go.Proofs.YteldhpneegccjaaW.PrintWords Go.Proofs.YteldhpneegccjaaW.PrintLast Go.Proofs.YteldhpneegccjaaW.PrintMore
set_option linter.unusedVariables false

theorem refIsNorm_l0 (row : List S26) (hr : Fit row) (pre suf : List S26) (hp : row = pre ++ suf) : ∀ (last : Int), ((pre = [] ∧ last = -1) ∨ ∃ p q, pre = p ++ [q] ∧ last = q.f1) → -1 ≤ last → last ≤ 1000000000 →
    Ev (fun k => barrowref01_IsNorm.l0 k row (pre.length : Int)) (normB last suf) := by
  induction suf generalizing pre with
  | nil =>
    intro last _ _ _
    refine Ev.step (f := fun _ => some (normB last [])) (fun k => ?_) (Ev.now _)
    rw [barrowref01_IsNorm.l0, if_neg (by rw [hp]; simp)]
    simp [normB]
  | cons r t ih =>
    intro last hlast h1 h2
    unfold Fit at hr
    have e1 : wrap64 ((pre.length : Int) + 1) = ((pre ++ [r]).length : Int) := by rw [w64_nat _ (by rw [hp] at hr; simp at hr; omega)]; simp
    have hlt : (pre.length : Int) < (row.length : Int) := by rw [hp]; simp; omega
    have hget : rd_T26 row (pre.length : Int) = r := by rw [hp]; exact rdT pre t r
    by_cases ha : r.f0 < 1 ∨ r.f0 > r.f1 ∨ r.f1 > 1000000000
    · have e2 : normB last (r :: t) = false := by
        rw [Bool.eq_false_iff]
        intro h
        simp only [normB, Bool.and_eq_true, decide_eq_true_eq] at h
        omega
      rw [e2]
      refine Ev.step (f := fun k => barrowref01_IsNorm.j1 k row (pre.length : Int) true) (fun k => ?_) (Ev.step (f := fun _ => some false) (fun k => ?_) (Ev.now _))
      · rw [barrowref01_IsNorm.l0, if_pos hlt, if_pos (by omega), hget]
        split
        · rfl
        · split
          · rfl
          · rw [decide_eq_true (by omega)]
      · rw [barrowref01_IsNorm.j1, if_pos rfl]
    · have hstart : ∀ {b : Bool}, Ev (fun k => barrowref01_IsNorm.j1 k row (pre.length : Int) false) b → Ev (fun k => barrowref01_IsNorm.l0 k row (pre.length : Int)) b := by
        intro b h
        refine Ev.step (fun k => ?_) h
        rw [barrowref01_IsNorm.l0, if_pos hlt, if_pos (by omega), hget, if_neg (by omega), if_neg (by omega), decide_eq_false (by omega)]
      have hI := ih (pre ++ [r]) (by rw [hp]; simp) r.f1 (.inr ⟨pre, r, rfl, rfl⟩) (by omega) (by omega)
      have hnext : last + 2 ≤ r.f0 → normB last (r :: t) = normB r.f1 t := by
        intro h
        simp only [normB]
        rw [decide_eq_true h, decide_eq_true (show r.f0 ≤ r.f1 by omega), decide_eq_true (show r.f1 ≤ 1000000000 by omega)]
        rfl
      rcases hlast with ⟨rfl, rfl⟩ | ⟨p, q, rfl, rfl⟩
      · rw [hnext (by omega)]
        refine hstart (Ev.step (fun k => ?_) hI)
        rw [barrowref01_IsNorm.j1, if_neg (by decide), if_neg (by simp), e1]
      · have hw : wrap64 ((((p ++ [q]).length : Nat) : Int) - 1) = (p.length : Int) := by
          rw [w64 (by omega) (by omega), List.length_append, List.length_singleton]; omega
        have hgq : rd_T26 row (p.length : Int) = q := by
          rw [hp, List.append_assoc]
          exact rdT p (r :: t) q
        have hpl : (p.length : Int) < (row.length : Int) := by rw [hp]; simp; omega
        by_cases hc : q.f1 + 2 ≤ r.f0
        · rw [hnext hc]
          refine hstart (Ev.step (fun k => ?_) hI)
          rw [barrowref01_IsNorm.j1, if_neg (by decide), if_pos (by simp), if_pos (by omega), if_pos hlt, hw, if_pos (by omega), if_pos hpl, hget, hgq, w64 (x := r.f0 - 2) (by omega) (by omega), if_neg (by omega), e1]
        · have e2 : normB q.f1 (r :: t) = false := by
            simp only [normB]
            rw [decide_eq_false hc]
            rfl
          rw [e2]
          refine hstart (Ev.step (f := fun _ => some false) (fun k => ?_) (Ev.now _))
          rw [barrowref01_IsNorm.j1, if_neg (by decide), if_pos (by simp), if_pos (by omega), if_pos hlt, hw, if_pos (by omega), if_pos hpl, hget, hgq, w64 (x := r.f0 - 2) (by omega) (by omega), if_pos (by omega)]
theorem refLast_l0 (row : List S26) (hr : Fit row) (pre suf : List S26) (hp : row = pre ++ suf) : ∀ (x : Int),
    Ev (fun k => barrowref01_Last.l0 k row x (pre.length : Int)) (lastL suf x) := by
  induction suf generalizing pre with
  | nil =>
    intro x
    refine Ev.step (f := fun _ => some (lastL [] x)) (fun k => ?_) (Ev.now _)
    rw [barrowref01_Last.l0, if_neg (by rw [hp]; simp)]
    simp [lastL]
  | cons r t ih =>
    intro x
    unfold Fit at hr
    have e1 : wrap64 ((pre.length : Int) + 1) = ((pre ++ [r]).length : Int) := by rw [w64_nat _ (by rw [hp] at hr; simp at hr; omega)]; simp
    have hlt : (pre.length : Int) < (row.length : Int) := by rw [hp]; simp; omega
    have hget : rd_T26 row (pre.length : Int) = r := by rw [hp]; exact rdT pre t r
    refine Ev.step (fun k => ?_) (ih (pre ++ [r]) (by rw [hp]; simp) (if okB r = true then mx x (clipS r).f1 else x))
    have hok : okB r = true ↔ ((if r.f0 < 1 then 1 else r.f0) ≤ (if 1000000000 < r.f1 then 1000000000 else r.f1)) := by unfold okB clipS; exact decide_eq_true_iff
    have hx : (clipS r).f1 = (if 1000000000 < r.f1 then 1000000000 else r.f1) := rfl
    rw [barrowref01_Last.l0, if_pos hlt, if_pos (by omega), hget, e1]
    by_cases c1 : r.f1 > 1000000000
    · rw [if_pos c1, if_pos (by decide)]
      rw [if_pos (show 1000000000 < r.f1 from c1)] at hok hx
      by_cases c2 : r.f0 ≤ 1000000000
      · have ho : okB r = true := hok.2 (by split <;> omega)
        rw [if_pos c2, if_pos ho, hx]
        unfold mx
        split <;> rfl
      · have ho : ¬ okB r = true := fun h => by have := hok.1 h; split at this <;> omega
        rw [if_neg c2, if_neg ho]
    · rw [if_neg c1]
      rw [if_neg (show ¬ 1000000000 < r.f1 from c1)] at hok hx
      by_cases c2 : r.f1 ≥ 1
      · rw [if_pos c2]
        by_cases c3 : r.f0 ≤ r.f1
        · have ho : okB r = true := hok.2 (by split <;> omega)
          rw [if_pos c3, if_pos ho, hx]
          unfold mx
          split <;> rfl
        · have ho : ¬ okB r = true := fun h => by have := hok.1 h; split at this <;> omega
          rw [if_neg c3, if_neg ho]
      · have ho : ¬ okB r = true := fun h => by have := hok.1 h; split at this <;> omega
        rw [if_neg c2, if_neg ho]
theorem SpanForms (l0 : List S26) (h0 : l0.length ≤ 349525) (w0 : Br.WfR l0) : ∃ k, barrowlaw01_SpanForms.f k l0 = some true := by
  apply Ev.rounds
  have f0 : Fit l0 := by unfold Fit; omega
  have nA := canon_norm' l0
  unfold barrowlaw01_SpanForms.f
  refine Ev.bind awake_ev ?_
  simp only [if_true]
  refine Ev.bind (isNorm_ev [(⟨1, 2⟩ : S26), ⟨4, 4⟩] (by simp [Fit])) ?_
  rw [show normB (-1) [(⟨1, 2⟩ : S26), ⟨4, 4⟩] = true from by decide]
  simp only [if_true]
  refine Ev.bind (isNorm_ev [(⟨1, 2⟩ : S26), ⟨3, 4⟩] (by simp [Fit])) ?_
  rw [show normB (-1) [(⟨1, 2⟩ : S26), ⟨3, 4⟩] = false from by decide]
  refine Ev.succ ?_
  simp only [barrowlaw01_SpanForms.j0, Bool.false_eq_true, if_false]
  have hIN : Ev (fun k => barrowref01_IsNorm.f k l0) (normB (-1) l0) := by
    unfold barrowref01_IsNorm.f
    exact refIsNorm_l0 l0 f0 [] l0 rfl (-1) (.inl ⟨rfl, rfl⟩) (by omega) (by omega)
  have hLA : Ev (fun k => barrowref01_Last.f k l0) (lastL l0 0) := by
    unfold barrowref01_Last.f
    exact refLast_l0 l0 f0 [] l0 rfl 0
  refine Ev.bind (refNorm_ev l0 (by omega)) (Ev.bind hIN (Ev.bind (refSize_ev l0 (by omega)) (Ev.bind hLA (Ev.bind (norm_ev l0 f0) (Ev.bind (eq_ev _ _ nA.fit) ?_)))))
  rw [decide_eq_true rfl]
  simp only [if_true]
  refine Ev.bind (isNorm_ev _ nA.fit) ?_
  rw [(normB_iff _ _).2 nA]
  simp only [if_true]
  refine Ev.bind (isNorm_ev l0 f0) ?_
  rw [bne_self_eq_false]
  refine Ev.succ ?_
  simp only [barrowlaw01_SpanForms.j1, Bool.false_eq_true, if_false]
  refine Ev.bind (size_ev l0 f0) ?_
  simp only [if_true]
  refine Ev.bind (last_ev l0 f0) ?_
  simp only [beq_self_eq_true]
  exact Ev.now _
end Go.Proofs.Yteldhpneegccjaa.Pure
