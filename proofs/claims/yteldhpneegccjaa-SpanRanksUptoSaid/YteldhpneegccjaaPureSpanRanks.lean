/- SpanRanks in plain Lean. -/
import Derived.Test.YteldhpneegccjaaAlR
import Derived.Test.YteldhpneegccjaaRfN
import Derived.Test.YteldhpneegccjaaGx19
import Derived.Test.YteldhpneegccjaaBr
namespace Go.Proofs.Yteldhpneegccjaa.Pure
open Go.RowKit Go.Proofs.Yteldhpneegccjaa.G Go.Proofs.YteldhpneegccjaaW.PrintWords Go.Proofs.YteldhpneegccjaaW.PrintLast Go.Proofs.YteldhpneegccjaaW.PrintMore
set_option linter.unusedVariables false

theorem refPick_l0 (row : List S26) (hr : row.length < 8796093022208) (pre suf : List S26) (hp : row = pre ++ suf) : ∀ (n last : Int), NormFrom last suf → -1 ≤ last → 1 ≤ n → n < 9223372036854775808 →
    Ev (fun k => barrowref01_Pick.l0 k n row (pre.length : Int)) (pickL suf n) := by
  induction suf generalizing pre with
  | nil =>
    intro n last _ _ _ _
    refine Ev.step (f := fun _ => some (pickL [] n)) (fun k => ?_) (Ev.now _)
    simp only [barrowref01_Pick.l0]
    rw [if_neg (by rw [hp]; simp)]
    simp [pickL]
  | cons r t ih =>
    intro n last hn hl h0 h2
    obtain ⟨n1, n2, n3, n4⟩ := hn
    have e1 : wrap64 ((pre.length : Int) + 1) = ((pre ++ [r]).length : Int) := by rw [w64_nat _ (by rw [hp] at hr; simp at hr; omega)]; simp
    have hlt : (pre.length : Int) < (row.length : Int) := by rw [hp]; simp; omega
    have hget : rd_T26 row (pre.length : Int) = r := by rw [hp]; exact rdT pre t r
    by_cases hc : n ≤ r.f1 - r.f0 + 1
    · refine Ev.step (f := fun _ => some (pickL (r :: t) n)) (fun k => ?_) (Ev.now _)
      simp only [barrowref01_Pick.l0, pickL]
      rw [if_pos hlt, if_pos (by omega), hget, w64 (x := r.f1 - r.f0) (by omega) (by omega), w64 (x := r.f1 - r.f0 + 1) (by omega) (by omega), if_pos hc, if_pos hc, w64 (x := r.f0 + n) (by omega) (by omega), w64 (by omega) (by omega)]
    · have hI := ih (pre ++ [r]) (by rw [hp]; simp) (n - (r.f1 - r.f0 + 1)) r.f1 n4 (by omega) (by omega) (by omega)
      rw [show pickL (r :: t) n = pickL t (n - (r.f1 - r.f0 + 1)) from by simp only [pickL]; rw [if_neg hc]]
      refine Ev.step (fun k => ?_) hI
      simp only [barrowref01_Pick.l0]
      rw [if_pos hlt, if_pos (by omega), hget, w64 (x := r.f1 - r.f0) (by omega) (by omega), w64 (x := r.f1 - r.f0 + 1) (by omega) (by omega), if_neg hc, e1, w64 (by omega) (by omega)]
theorem refPick_ev (l : List S26) (n : Int) (h : l.length ≤ 2097152) (hn : n < 9223372036854775808) : Ev (fun k => barrowref01_Pick.f k l n) (if n < 1 then 0 else pickL (canon l) n) := by
  have hl := (canon_norm' l).len
  unfold barrowref01_Pick.f
  by_cases hc : n < 1
  · simp only [if_pos hc]; exact Ev.now _
  · simp only [if_neg hc]
    exact Ev.bind (refNorm_ev l h) (refPick_l0 (canon l) (by omega) [] (canon l) rfl n (-1) (canon_norm' l) (by omega) (by omega) hn)
theorem rank_card (l : List S26) (n : Int) (P : Int → Bool) (hP : ∀ x, P x = (memB l x && decide (x ≤ n))) : rankL (canon l) n = card P 1000000000 := by
  have hN := canon_norm' l
  obtain ⟨N, hNN⟩ : ∃ N : Nat, N = 1000000000 := ⟨_, rfl⟩
  rw [← hNN]
  have step : ∀ m : Nat, (m : Int) ≤ 1000000000 → card P m = rankL (canon l) (if (m : Int) ≤ n then (m : Int) else n) := by
    intro m
    induction m with
    | zero =>
      intro _
      rw [card]
      split
      · rw [rankL_high hN (n := ((0 : Nat) : Int)) (by omega)]
      · rw [rankL_high hN (n := n) (by omega)]
    | succ m ih =>
      intro hm
      have h1 := ih (by omega)
      have h2 := rankL_step (by omega) hN (n := (m : Int)) (by omega) (by omega)
      rw [canon_memB] at h2
      simp only [card]
      rw [h1, hP]
      by_cases h3 : ((m : Int) + 1) ≤ n
      · have ea : (if (m : Int) ≤ n then (m : Int) else n) = (m : Int) := if_pos (by omega)
        have eb : (if ((m + 1 : Nat) : Int) ≤ n then ((m + 1 : Nat) : Int) else n) = (m : Int) + 1 := by rw [if_pos (by omega)]; omega
        rw [ea, eb, h2, decide_eq_true h3, Bool.and_true]
      · have eb : (if ((m + 1 : Nat) : Int) ≤ n then ((m + 1 : Nat) : Int) else n) = n := if_neg (by omega)
        have ea : (if (m : Int) ≤ n then (m : Int) else n) = n := by split <;> omega
        rw [ea, eb, decide_eq_false h3, Bool.and_false, if_neg (by decide), Int.add_zero]
  have h5 := step N (by omega)
  rw [h5]
  split
  · rw [rankL_size hN (n := (N : Int)) (by omega)]
    exact rankL_size hN (by omega)
  · rfl
theorem refRank_ev (l : List S26) (n : Int) (h : l.length ≤ 349525) : Ev (fun k => barrowref01_Rank.f k l n) (rankL (canon l) n) := by
  obtain ⟨M, hM, rM, lM⟩ := sweep_meet l [⟨1, n⟩] (by simp; omega)
  have hlen := rM.1.len
  have hS := refSize_ev M (by simp at lM; omega)
  rw [canon_norm rM.1] at hS
  have e : sizeL M = rankL (canon l) n := by
    rw [sizeL_card rM.1]
    refine (rank_card l n (memB M) (fun x => ?_)).symm
    rw [Bool.eq_iff_iff, Bool.and_eq_true, decide_eq_true_eq, memB_iff, memB_iff, (show Mem M x ↔ Mem l x ∧ Mem [⟨1, n⟩] x from rM.2 x), mem_cons]
    simp only [mem_nil, or_false]
    constructor
    · rintro ⟨a, _, _, _, b⟩; exact ⟨a, b⟩
    · rintro ⟨a, b⟩; exact ⟨a, a.1, a.2.1, a.1, b⟩
  unfold barrowref01_Rank.f barrowref01_one.f barrowref01_Meet.f
  simp only [Option.bind_some]
  rw [← e]
  exact Ev.bind (Ev.bind hM (Ev.now _)) (Ev.bind hS (Ev.now _))
theorem SpanRanks (l0 : List S26) (a1 : Int) (h0 : l0.length ≤ 349525) (w0 : Br.WfR l0) (w1 : (Lit.int .i64 a1).wf = true) : ∃ k, barrowlaw01_SpanRanks.f k l0 a1 = some true := by
  apply Ev.rounds
  have b1 := Br.wf64 w1
  have f0 : Fit l0 := by unfold Fit; omega
  have n2 : Norm [(⟨2, 4⟩ : S26), ⟨8, 8⟩] := by simp [Norm, NormFrom]
  have r2 := rank_ev [(⟨2, 4⟩ : S26), ⟨8, 8⟩] 3 n2.fit
  have p2 := pick_ev [(⟨2, 4⟩ : S26), ⟨8, 8⟩] 4 n2.fit (by omega)
  rw [canon_norm n2] at r2 p2
  have e1 : rankL [(⟨2, 4⟩ : S26), ⟨8, 8⟩] 3 = 2 := by decide
  have e2 : (if (4 : Int) < 1 then 0 else pickL [(⟨2, 4⟩ : S26), ⟨8, 8⟩] 4) = 8 := by decide
  rw [e1] at r2
  rw [e2] at p2
  unfold barrowlaw01_SpanRanks.f
  refine Ev.bind r2 ?_
  simp only [if_true]
  refine Ev.bind p2 ?_
  rw [show ((8 : Int) != 8) = false from rfl]
  refine Ev.succ ?_
  simp only [barrowlaw01_SpanRanks.j0, Bool.false_eq_true, if_false]
  refine Ev.bind (refRank_ev l0 a1 (by omega)) (Ev.bind (refPick_ev l0 a1 (by omega) b1.2) (Ev.bind (rank_ev l0 a1 f0) ?_))
  simp only [if_true]
  refine Ev.bind (pick_ev l0 a1 f0 b1.2) ?_
  simp only [beq_self_eq_true]
  exact Ev.now _
end Go.Proofs.Yteldhpneegccjaa.Pure
