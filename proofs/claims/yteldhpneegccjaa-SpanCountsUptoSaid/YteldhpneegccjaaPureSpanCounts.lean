/- SpanCounts in plain Lean. -/
import Derived.Test.YteldhpneegccjaaAlM
import Derived.Test.YteldhpneegccjaaAlS
import Derived.Test.YteldhpneegccjaaGx57
import Derived.Test.YteldhpneegccjaaBr
namespace Go.Proofs.Yteldhpneegccjaa.Pure
open Go.RowKit Go.Proofs.Yteldhpneegccjaa.G Go.Proofs.YteldhpneegccjaaW.PrintWords Go.Proofs.YteldhpneegccjaaW.PrintLast Go.Proofs.YteldhpneegccjaaW.PrintMore
set_option linter.unusedVariables false
theorem union2c_ev (a b : List S26) (ha : a.length ≤ 349525) (hb : b.length ≤ 349525) : Ev (fun k => span_Union.f k [a, b]) (canon (a ++ b)) := by
  have hc := clips_len ([a, b] : List (List S26)).flatten
  have := union_ev [a, b] (by simp) (by intro x hx; simp at hx; rcases hx with rfl | rfl <;> omega) (by simp at hc ⊢; omega)
  simpa using this
theorem size_norm {l : List S26} (h : Norm l) : Ev (fun k => span_Size.f k l) (sizeL l) := by
  have := size_ev l h.fit
  rw [canon_norm h] at this
  exact this
theorem SpanCounts (l0 l1 : List S26) (a2 : Int) (h0 : l0.length ≤ 349525) (w0 : Br.WfR l0) (h1 : l1.length ≤ 349525) (w1 : Br.WfR l1) (w2 : (Lit.int .i64 a2).wf = true) : ∃ k, barrowlaw01_SpanCounts.f k l0 l1 a2 = some true := by
  apply Ev.rounds
  have b2 := Br.wf64 w2
  unfold barrowlaw01_SpanCounts.f
  have f0 : Fit l0 := by unfold Fit; omega
  have f1 : Fit l1 := by unfold Fit; omega
  have nA := canon_norm' l0
  have nB := canon_norm' l1
  have nU := canon_norm' (l0 ++ l1)
  obtain ⟨M, hM, rM⟩ := meet_ev l0 l1 f0 f1
  obtain ⟨D, hD, rD⟩ := minus_ev l0 l1 f0 f1
  obtain ⟨A, B, hS, rA, rB⟩ := split_ev l0 a2 f0 b2.1 b2.2
  have e1 : canon [(⟨1, 1000000000⟩ : S26), ⟨5, 9⟩] = [⟨1, 1000000000⟩] := by
    refine canon_of (P := fun n => 1 ≤ n ∧ n ≤ 1000000000) ⟨by simp [Norm, NormFrom], fun n => ?_⟩ _ (fun n => ?_)
    · rw [mem_cons]; simp [mem_nil]; omega
    · rw [mem_cons, mem_cons]; simp [mem_nil]; omega
  have hE := size_ev [(⟨1, 1000000000⟩ : S26), ⟨5, 9⟩] (by simp [Fit])
  rw [e1] at hE
  refine Ev.bind hE ?_
  have e2 : sizeL [(⟨1, 1000000000⟩ : S26)] = 1000000000 := by simp [sizeL]
  simp only [e2, if_true]
  refine Ev.bind (size_ev l0 f0) (Ev.bind hM (Ev.bind (size_norm rM.1) (Ev.bind (union2c_ev l0 l1 h0 h1) (Ev.bind (size_norm nU) (Ev.bind (size_ev l1 f1) ?_)))))
  have a1 := sizeL_nonneg nA
  have a2' := sizeL_le nA
  have a3 := sizeL_nonneg nB
  have a4 := sizeL_le nB
  have a5 := sizeL_nonneg nU
  have a6 := sizeL_le nU
  have a7 := sizeL_nonneg rM.1
  have a8 := sizeL_le rM.1
  have a9 := sizeL_nonneg rD.1
  have a10 := sizeL_le rD.1
  have a11 := sizeL_nonneg rA.1
  have a12 := sizeL_le rA.1
  have a13 := sizeL_nonneg rB.1
  have a14 := sizeL_le rB.1
  have q1 : sizeL (canon (l0 ++ l1)) + sizeL M = sizeL (canon l0) + sizeL (canon l1) := by
    rw [sizeL_card nU, sizeL_card rM.1, sizeL_card nA, sizeL_card nB]
    obtain ⟨N, hN⟩ : ∃ N : Nat, N = 1000000000 := ⟨_, rfl⟩
    rw [← hN, ← card_or (memB (canon l0)) (memB (canon l1)) N]
    congr 1
    · exact card_congr (fun n => by rw [Bool.eq_iff_iff, Bool.or_eq_true, memB_iff, memB_iff, memB_iff, canon_mem, canon_mem, canon_mem, mem_append]) N
    · exact card_congr (fun n => by rw [Bool.eq_iff_iff, Bool.and_eq_true, memB_iff, memB_iff, memB_iff, rM.2, canon_mem, canon_mem]) N
  have q2 : sizeL D + sizeL M = sizeL (canon l0) := by
    rw [sizeL_card rD.1, sizeL_card rM.1, sizeL_card nA]
    obtain ⟨N, hN⟩ : ∃ N : Nat, N = 1000000000 := ⟨_, rfl⟩
    rw [← hN, ← card_minus (memB (canon l0)) (memB (canon l1))]
    congr 1
    · exact card_congr (fun n => by
        rw [Bool.eq_iff_iff, Bool.and_eq_true, Bool.not_eq_true', memB_iff, memB_iff, (show Mem D n ↔ Mem l0 n ∧ ¬ Mem l1 n from rD.2 n), canon_mem, ← canon_mem l1 n, ← memB_iff (canon l1) n]; simp) N
    · exact card_congr (fun n => by rw [Bool.eq_iff_iff, Bool.and_eq_true, memB_iff, memB_iff, memB_iff, rM.2, canon_mem, canon_mem]) N
  have q3 : sizeL A + sizeL B = sizeL (canon l0) := by
    rw [sizeL_card rA.1, sizeL_card rB.1, sizeL_card nA]
    obtain ⟨N, hN⟩ : ∃ N : Nat, N = 1000000000 := ⟨_, rfl⟩
    rw [← hN, ← card_minus (memB (canon l0)) (fun n => decide (a2 ≤ n))]
    congr 1
    · exact card_congr (fun n => by
        rw [Bool.eq_iff_iff, Bool.and_eq_true, Bool.not_eq_true', decide_eq_false_iff_not, memB_iff, memB_iff, (show Mem A n ↔ Mem l0 n ∧ n < a2 from rA.2 n), canon_mem]
        constructor <;> (rintro ⟨u, v⟩; exact ⟨u, by omega⟩)) N
    · exact card_congr (fun n => by rw [Bool.eq_iff_iff, Bool.and_eq_true, decide_eq_true_eq, memB_iff, memB_iff, rB.2, canon_mem]) N
  have w1' : wrap64 (sizeL (canon (l0 ++ l1)) + sizeL M) = wrap64 (sizeL (canon l0) + sizeL (canon l1)) := by rw [q1]
  simp only [if_pos w1']
  refine Ev.bind hD (Ev.bind (size_norm rD.1) ?_)
  rw [w64 (x := sizeL D + sizeL M) (by omega) (by omega), q2]
  have e3 : (sizeL (canon l0) != sizeL (canon l0)) = false := by simp
  rw [e3]
  refine Ev.succ ?_
  simp only [barrowlaw01_SpanCounts.j0, Bool.false_eq_true, if_false]
  refine Ev.bind hS (Ev.bind (lead_ev l0 f0) ?_)
  have hLead : ∃ n t, leadL (canon l0) = (n, t) ∧ Norm t ∧ n + sizeL t = sizeL (canon l0) ∧ 0 ≤ n ∧ n ≤ 1000000000 ∧ (∀ s u, t = s :: u → n + 2 ≤ s.f0) := by
    generalize canon l0 = L at nA
    match L, nA with
    | [], _ => exact ⟨0, [], rfl, trivial, rfl, Int.le_refl _, by omega, by intro s u h; simp at h⟩
    | r :: t, h =>
      have h' := h
      obtain ⟨n1, n2, n3, n4⟩ := h
      simp only [leadL]
      by_cases hc : r.f0 = 1
      · rw [if_pos hc]
        refine ⟨r.f1, t, rfl, n4.mono (by omega), by simp only [sizeL]; omega, by omega, n3, ?_⟩
        rintro s u rfl
        exact n4.1
      · rw [if_neg hc]
        refine ⟨0, r :: t, rfl, h', by simp, Int.le_refl _, by omega, ?_⟩
        intro s u hsu
        injection hsu with hs _
        subst hs
        omega
  obtain ⟨n, t, eL, nT, qT, z0, z1, zs⟩ := hLead
  simp only [eL]
  have a15 := sizeL_nonneg nT
  have a16 := sizeL_le nT
  refine Ev.bind (size_norm rA.1) (Ev.bind (size_norm rB.1) ?_)
  rw [w64 (x := sizeL A + sizeL B) (by omega) (by omega)]
  simp only [if_pos q3]
  refine Ev.bind (size_norm nT) ?_
  rw [w64 (x := n + sizeL t) (by omega) (by omega)]
  simp only [if_pos qT, has_eq, Option.bind_some]
  have hf : memB A a2 = false := by
    rw [Bool.eq_false_iff]
    intro h
    have := ((rA.2 a2).1 ((memB_iff _ _).1 h)).2
    omega
  simp only [hf, beq_self_eq_true, if_true]
  cases t with
  | nil => exact Ev.now _
  | cons s u =>
    have h3 := zs s u rfl
    have e : rd_T26 (s :: u) 0 = s := rfl
    have hl1 : ((s :: u).length : Int) ≠ 0 := by simp; omega
    have hl2 : (0 : Int) < ((s :: u).length : Int) := by omega
    simp only [if_neg hl1, if_pos hl2, e]
    rw [w64 (x := n + 2) (by omega) (by omega), decide_eq_true (by omega)]
    exact Ev.now _
end Go.Proofs.Yteldhpneegccjaa.Pure
