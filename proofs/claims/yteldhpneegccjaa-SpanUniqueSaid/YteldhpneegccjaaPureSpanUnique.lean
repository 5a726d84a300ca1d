/- SpanUnique in plain Lean. -/
import Derived.Test.YteldhpneegccjaaAlW
import Derived.Test.YteldhpneegccjaaAlE
import Derived.Test.YteldhpneegccjaaAlI
import Derived.Test.YteldhpneegccjaaGx55
import Derived.Test.YteldhpneegccjaaBr
namespace Go.Proofs.Yteldhpneegccjaa.Pure
open Go.RowKit Go.Proofs.Yteldhpneegccjaa.G Go.Proofs.YteldhpneegccjaaW.PrintWords Go.Proofs.YteldhpneegccjaaW.PrintLast Go.Proofs.YteldhpneegccjaaW.PrintMore
set_option linter.unusedVariables false

theorem size_zero {l : List S26} (h : Norm l) : sizeL l = 0 ↔ ∀ n, ¬ Mem l n := by
  rw [sizeL_card h]
  obtain ⟨N, hN⟩ : ∃ N : Nat, N = 1000000000 := ⟨_, rfl⟩
  rw [← hN]
  constructor
  · intro h0 n hn
    have := card_zero h0 n hn.1 (by have := hn.2.1; omega)
    rw [(memB_iff l n).2 hn] at this
    cases this
  · intro h0
    exact card_none (fun x _ _ => by rw [Bool.eq_false_iff]; exact fun h => h0 x ((memB_iff l x).1 h))
theorem SpanUnique (l0 l1 : List S26) (h0 : Fit l0) (w0 : Br.WfR l0) (h1 : Fit l1) (w1 : Br.WfR l1) : ∃ k, barrowlaw01_SpanUnique.f k l0 l1 = some true := by
  apply Ev.rounds
  unfold barrowlaw01_SpanUnique.f
  have nA := canon_norm' l0
  have nB := canon_norm' l1
  refine Ev.bind awake_ev ?_
  simp only [if_true]
  refine Ev.bind (norm_ev l0 h0) (Ev.bind (norm_ev l1 h1) (Ev.bind (isNorm_ev _ nA.fit) ?_))
  rw [(normB_iff _ _).2 nA]
  simp only [if_true]
  refine Ev.bind (norm_ev _ nA.fit) ?_
  rw [canon_norm nA]
  refine Ev.bind (eq_ev _ _ nA.fit) ?_
  rw [decide_eq_true rfl]
  refine Ev.succ ?_
  simp only [barrowlaw01_SpanUnique.j0, Bool.not_true, Bool.false_eq_true, if_false]
  refine Ev.bind (isNorm_ev l0 h0) ?_
  have key : Ev (fun k => barrowlaw01_SpanUnique.j1 k l0 l1 (canon l0) (canon l1) false) true := by
    refine Ev.succ ?_
    simp only [barrowlaw01_SpanUnique.j1, Bool.false_eq_true, if_false]
    refine Ev.bind (eq_ev _ _ nA.fit) ?_
    obtain ⟨R, hR, rR⟩ := minus_ev l0 l1 h0 h1
    obtain ⟨Q, hQ, rQ⟩ := minus_ev l1 l0 h1 h0
    refine Ev.bind hR ?_
    have hsR := size_ev R rR.1.fit
    have hsQ := size_ev Q rQ.1.fit
    rw [canon_norm rR.1] at hsR
    rw [canon_norm rQ.1] at hsQ
    obtain ⟨p, hp, ip⟩ := within_ev l0 l1 h0 h1
    obtain ⟨q, hq, iq⟩ := within_ev l1 l0 h1 h0
    refine Ev.bind hsR (Ev.bind hQ (Ev.bind hsQ (Ev.bind (order_of l0 l1 hp hq) ?_)))
    have b1 := sizeL_nonneg rR.1
    have b2 := sizeL_le rR.1
    have b3 := sizeL_nonneg rQ.1
    have b4 := sizeL_le rQ.1
    have e1 : decide (canon l0 = canon l1) = (orderV p q == 0) := by
      rw [Bool.eq_iff_iff, decide_eq_true_eq, beq_iff_eq, orderV_zero, ip, iq]
      constructor
      · intro e
        exact ⟨fun n hn => (canon_inj e n).1 hn, fun n hn => (canon_inj e n).2 hn⟩
      · rintro ⟨ha, hb⟩
        exact canon_congr (fun n => ⟨ha n, hb n⟩)
    have e2 : decide (canon l0 = canon l1) = (wrap64 (sizeL R + sizeL Q) == 0) := by
      rw [w64 (by omega) (by omega), e1, Bool.eq_iff_iff, beq_iff_eq, beq_iff_eq, orderV_zero, ip, iq]
      have z1 := size_zero rR.1
      have z2 := size_zero rQ.1
      constructor
      · rintro ⟨ha, hb⟩
        have := z1.2 (fun n hn => ((rR.2 n).1 hn).2 (ha n ((rR.2 n).1 hn).1))
        have := z2.2 (fun n hn => ((rQ.2 n).1 hn).2 (hb n ((rQ.2 n).1 hn).1))
        omega
      · intro hs
        have y1 := z1.1 (by omega)
        have y2 := z2.1 (by omega)
        exact ⟨fun n hn => Classical.byContradiction fun hb => y1 n ((rR.2 n).2 ⟨hn, hb⟩), fun n hn => Classical.byContradiction fun hb => y2 n ((rQ.2 n).2 ⟨hn, hb⟩)⟩
    rw [← e1, ← e2]
    simp only [beq_self_eq_true, if_true]
    exact Ev.now _
  by_cases hn : normB (-1) l0 = true
  · rw [hn]
    simp only [if_true]
    refine Ev.bind (eq_ev _ _ nA.fit) ?_
    rw [canon_norm ((normB_iff _ _).1 hn), decide_eq_true rfl]
    rw [canon_norm ((normB_iff _ _).1 hn)] at key
    exact key
  · rw [Bool.eq_false_iff.2 hn]
    simp only [Bool.false_eq_true, if_false]
    exact key
end Go.Proofs.Yteldhpneegccjaa.Pure
