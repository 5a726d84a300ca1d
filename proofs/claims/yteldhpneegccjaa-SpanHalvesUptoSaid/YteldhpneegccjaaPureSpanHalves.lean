/- PureSpanHalves in plain Lean. -/
import Derived.Test.YteldhpneegccjaaAlX
import Derived.Test.YteldhpneegccjaaAlE
import Derived.Test.YteldhpneegccjaaAlS
import Derived.Test.YteldhpneegccjaaRfG
import Derived.Test.YteldhpneegccjaaGx34
import Derived.Test.YteldhpneegccjaaBr
namespace Go.Proofs.Yteldhpneegccjaa.Pure
open Go.RowKit Go.Proofs.Yteldhpneegccjaa.G Go.Proofs.YteldhpneegccjaaW.PrintWords Go.Proofs.YteldhpneegccjaaW.PrintLast Go.Proofs.YteldhpneegccjaaW.PrintMore
set_option linter.unusedVariables false

theorem refSplit_ev (l : List S26) (x : Int) (h : l.length ≤ 349525) : ∃ A B, Ev (fun k => barrowref01_Split.f k l x) (A, B) ∧ Rep A (fun n => Mem l n ∧ n < x) ∧ Rep B (fun n => Mem l n ∧ x ≤ n) := by
  obtain ⟨M, hM, rM, lM⟩ := sweep_meet l [⟨x, 1000000000⟩] (by simp; omega)
  have eM : ∀ n, Mem M n ↔ Mem l n ∧ x ≤ n := by
    intro n
    rw [(show Mem M n ↔ Mem l n ∧ Mem [⟨x, 1000000000⟩] n from rM.2 n), mem_cons]
    simp only [mem_nil, or_false]
    constructor
    · rintro ⟨a, _, _, b, _⟩; exact ⟨a, b⟩
    · rintro ⟨a, b⟩; exact ⟨a, a.1, a.2.1, b, a.2.1⟩
  obtain ⟨D, hD, rD, lD⟩ := sweep_minus l M (by simp at lM; omega)
  refine ⟨D, M, ?_, rD.of (fun n => ?_), ⟨rM.1, eM⟩⟩
  · unfold barrowref01_Split.f barrowref01_one.f barrowref01_Meet.f barrowref01_Minus.f
    simp only [Option.bind_some]
    exact Ev.bind (Ev.bind hM (Ev.now _)) (Ev.bind (Ev.bind hD (Ev.now _)) (Ev.now _))
  · rw [eM]
    constructor
    · rintro ⟨a, b⟩
      refine ⟨a, ?_⟩
      rcases Int.lt_or_le n x with h | h
      · exact h
      · exact absurd ⟨a, h⟩ b
    · rintro ⟨a, b⟩
      exact ⟨a, fun h => by have := h.2; omega⟩
theorem lead_facts {L : List S26} (h : Norm L) : 0 ≤ (leadL L).1 ∧ (leadL L).1 ≤ 1000000000 ∧ (∀ q, 1 ≤ q → q ≤ (leadL L).1 → Mem L q) ∧ ((leadL L).1 < 1000000000 → ¬ Mem L ((leadL L).1 + 1)) ∧ Rep (leadL L).2 (fun n => Mem L n ∧ (leadL L).1 < n) := by
  match L, h with
  | [], _ => exact ⟨Int.le_refl _, by decide, fun q h1 h2 => by simp only [leadL] at h2; omega, fun _ => mem_nil _, trivial, fun n => by simp [leadL, mem_nil]⟩
  | r :: t, h =>
    have h' := h
    obtain ⟨n1, n2, n3, n4⟩ := h
    by_cases hc : r.f0 = 1
    · have e : leadL (r :: t) = (r.f1, t) := by simp only [leadL]; rw [if_pos hc]
      rw [e]
      refine ⟨by simp only; omega, n3, fun q h1 h2 => (mem_cons _ _ _).2 (.inl ⟨h1, by simp only at h2; omega, by omega, h2⟩), fun _ => head_hole h', n4.mono (by omega), fun n => mem_tail (by omega) h' n⟩
    · have e : leadL (r :: t) = (0, r :: t) := by simp only [leadL]; rw [if_neg hc]
      rw [e]
      refine ⟨Int.le_refl _, by simp only; omega, fun q h1 h2 => by simp only at h2; omega, fun _ hm => ?_, h', fun n => ?_⟩
      · have := head_least h' hm; simp only at this; omega
      · constructor
        · intro hm; exact ⟨hm, by have := hm.1; simp only; omega⟩
        · exact fun hm => hm.1
theorem refLead_ev (l : List S26) (h : l.length ≤ 349525) : Ev (fun k => barrowref01_Lead.f k l) (leadL (canon l)) := by
  obtain ⟨u, hu, hF⟩ := refGap_ev l 1 h
  have hN := canon_norm' l
  obtain ⟨a1, a2, a3, a4, a5⟩ := lead_facts hN
  rcases hl : leadL (canon l) with ⟨n, t⟩
  rw [hl] at a1 a2 a3 a4 a5
  simp only at a1 a2 a3 a4 a5
  have key : ∀ m : Int, 0 ≤ m → m ≤ 1000000000 → (m = n) → Ev (fun k => (barrowref01_Minus.f k l [⟨1, m⟩])) t := by
    intro m h1 h2 h3
    obtain ⟨D, hD, rD, lD⟩ := sweep_minus l [⟨1, m⟩] (by simp; omega)
    have : D = t := Rep.unique rD (a5.of (fun q => by
      rw [canon_mem, mem_cons]
      simp only [mem_nil, or_false]
      constructor
      · rintro ⟨a, b⟩; exact ⟨a, fun hh => by omega⟩
      · rintro ⟨a, b⟩
        refine ⟨a, ?_⟩
        rcases Int.lt_or_le n q with h5 | h5
        · exact h5
        · exact absurd ⟨a.1, a.2.1, a.1, by omega⟩ b))
    subst this
    unfold barrowref01_Minus.f
    exact Ev.bind hD (Ev.now _)
  unfold barrowref01_Lead.f
  refine Ev.bind hu ?_
  rcases hF with ⟨e, hF⟩ | ⟨⟨h1, h2⟩, h3, h4⟩
  · subst e
    rw [show wrap64 (0 - 1) = -1 from w64 (by omega) (by omega)]
    simp only [if_pos (show (-1 : Int) < 0 by decide)]
    have hn : n = 1000000000 := by
      rcases Int.lt_or_le n 1000000000 with h5 | h5
      · have := hF (n + 1) ⟨⟨by omega, by omega, fun hm => a4 h5 ((canon_mem l _).2 hm)⟩, by omega⟩
        omega
      · omega
    unfold barrowref01_one.f
    simp only [Option.bind_some]
    rw [hn]
    exact Ev.bind (key 1000000000 (by omega) (by omega) hn.symm) (Ev.now _)
  · have hu1 : u = n + 1 := by
      have hu2 : n < u := by
        rcases Int.lt_or_le n u with h5 | h5
        · exact h5
        · exact absurd ((canon_mem l u).1 (a3 u h2 h5)) h1.2.2
      have := h4 (n + 1) ⟨⟨by omega, by have := h1.2.1; omega, fun hm => a4 (by have := h1.2.1; omega) ((canon_mem l _).2 hm)⟩, by omega⟩ (by omega)
      omega
    have := h1.2.1
    rw [w64 (by omega) (by omega)]
    simp only [if_neg (show ¬ u - 1 < 0 by omega)]
    unfold barrowref01_one.f
    simp only [Option.bind_some]
    rw [show u - 1 = n from by omega]
    exact Ev.bind (key n a1 a2 rfl) (Ev.now _)
theorem SpanHalves (l0 : List S26) (a1 : Int) (h0 : l0.length ≤ 349525) (w0 : Br.WfR l0) (w1 : (Lit.int .i64 a1).wf = true) : ∃ k, barrowlaw01_SpanHalves.f k l0 a1 = some true := by
  apply Ev.rounds
  have b1 := Br.wf64 w1
  have f0 : Fit l0 := by unfold Fit; omega
  have nA := canon_norm' l0
  unfold barrowlaw01_SpanHalves.f
  refine Ev.bind awake_ev ?_
  simp only [if_true]
  have nL : Norm [(⟨1, 4⟩ : S26), ⟨6, 7⟩] := by simp [Norm, NormFrom]
  have hL := lead_ev [(⟨1, 4⟩ : S26), ⟨6, 7⟩] (by simp [Fit])
  rw [canon_norm nL, show leadL [(⟨1, 4⟩ : S26), ⟨6, 7⟩] = (4, [⟨6, 7⟩]) from rfl] at hL
  refine Ev.bind hL ?_
  have e : ((([(⟨6, 7⟩ : S26)].length : Nat) : Int) != 1) = false := by decide
  simp only [if_true, e]
  refine Ev.succ ?_
  simp only [barrowlaw01_SpanHalves.j0, Bool.false_eq_true, if_false]
  obtain ⟨A, B, hS, rA, rB⟩ := refSplit_ev l0 a1 h0
  obtain ⟨A', B', hS', rA', rB'⟩ := split_ev l0 a1 f0 b1.1 b1.2
  have eA : A' = A := Rep.unique rA' rA
  have eB : B' = B := Rep.unique rB' rB
  subst eA; subst eB
  refine Ev.bind (refLead_ev l0 h0) (Ev.bind hS (Ev.bind (lead_ev l0 f0) ?_))
  simp only [if_true]
  refine Ev.bind (eq_ev _ _ (lead_facts nA).2.2.2.2.1.fit) ?_
  rw [decide_eq_true rfl]
  refine Ev.succ ?_
  simp only [barrowlaw01_SpanHalves.j1, Bool.not_true, Bool.false_eq_true, if_false]
  refine Ev.bind hS' (Ev.bind (eq_ev _ _ rA'.1.fit) ?_)
  rw [decide_eq_true rfl]
  simp only [if_true]
  refine Ev.bind (eq_ev _ _ rB'.1.fit) ?_
  rw [decide_eq_true rfl]
  exact Ev.now _
end Go.Proofs.Yteldhpneegccjaa.Pure
