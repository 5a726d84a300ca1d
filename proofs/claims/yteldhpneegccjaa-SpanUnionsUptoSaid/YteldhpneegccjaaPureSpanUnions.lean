/- SpanUnions in plain Lean. -/
import Derived.Test.YteldhpneegccjaaAlE
import Derived.Test.YteldhpneegccjaaSw3
import Derived.Test.YteldhpneegccjaaGx9
namespace Go.Proofs.Yteldhpneegccjaa.Pure
open Go.RowKit Go.Proofs.Yteldhpneegccjaa.G Go.Proofs.YteldhpneegccjaaW.PrintWords Go.Proofs.YteldhpneegccjaaW.PrintLast Go.Proofs.YteldhpneegccjaaW.PrintMore
set_option linter.unusedVariables false
theorem unions_l1 (L : List (List S26)) (hL : L.length ≤ 1048576) (hr : ∀ l ∈ L, Fit l) (pre suf : List (List S26)) (hp : L = pre ++ suf) : Ev (fun k => barrowlaw01_SpanUnions.l1 k L L (pre.length : Int)) true := by
  induction suf generalizing pre with
  | nil =>
    refine Ev.step (f := fun _ => some true) (fun k => ?_) (Ev.now _)
    rw [barrowlaw01_SpanUnions.l1, if_neg (by rw [hp]; simp)]
  | cons r t ih =>
    have e1 : wrap64 ((pre.length : Int) + 1) = ((pre ++ [r]).length : Int) := by rw [w64_nat _ (by rw [hp] at hL; simp at hL; omega)]; simp
    have hlt : (pre.length : Int) < (L.length : Int) := by rw [hp]; simp; omega
    have hget : rd_L2 L (pre.length : Int) = r := by rw [hp]; exact rdL pre t r
    refine Ev.step (f := fun k => (barrowref01_Equal.f k r r).bind fun t241 => if t241 = true then barrowlaw01_SpanUnions.l1 k L L ((pre ++ [r]).length : Int) else some false) (fun k => ?_) (Ev.bind (eq_ev r r (hr r (by rw [hp]; simp))) (k := ?_))
    · rw [barrowlaw01_SpanUnions.l1, if_pos hlt, if_pos (by omega), if_pos hlt, hget, e1]
    · rw [decide_eq_true rfl]
      simp only [if_true]
      exact ih (pre ++ [r]) (by rw [hp]; simp)
theorem unions_l0 (L : List (List S26)) (U : List S26) (hL : L.length ≤ 1048576) (hr : ∀ l ∈ L, l.length ≤ 349525) (hU : Ev (fun k => span_Union.f k L) U) (nU : Fit U) (pre suf : List (List S26)) (hp : L = pre ++ suf) : Ev (fun k => barrowlaw01_SpanUnions.l0 k L U pre (pre.length : Int)) true := by
  induction suf generalizing pre with
  | nil =>
    rw [List.append_nil] at hp
    refine Ev.step (f := fun k => (span_Union.f k L).bind fun t235 => (barrowref01_Equal.f k t235 U).bind fun t238 => if t238 = true then barrowlaw01_SpanUnions.l1 k L pre 0 else some false) (fun k => ?_) (Ev.bind hU (k := Ev.bind (eq_ev U U nU) (k := ?_)))
    · rw [barrowlaw01_SpanUnions.l0, if_neg (by rw [hp]; omega)]
    · rw [decide_eq_true rfl, ← hp]
      simp only [if_true]
      exact unions_l1 L hL (fun l hl => by have := hr l hl; unfold Fit; omega) [] L rfl
  | cons r t ih =>
    have e1 : wrap64 ((pre.length : Int) + 1) = ((pre ++ [r]).length : Int) := by rw [w64_nat _ (by rw [hp] at hL; simp at hL; omega)]; simp
    have hlt : (pre.length : Int) < (L.length : Int) := by rw [hp]; simp; omega
    have hget : rd_L2 L (pre.length : Int) = r := by rw [hp]; exact rdL pre t r
    have hrl := hr r (by rw [hp]; simp)
    refine Ev.step (fun k => ?_) (ih (pre ++ [r]) (by rw [hp]; simp))
    rw [barrowlaw01_SpanUnions.l0, if_pos hlt]
    simp only [Option.bind_some]
    rw [if_pos (by omega), hget, if_pos (by simp only [List.length_nil]; omega), if_pos (by omega), List.nil_append, e1]
theorem SpanUnions (L : List (List S26)) (h0 : L.length ≤ 1048576 ∧ L.flatten.length ≤ 349525) : ∃ k, barrowlaw01_SpanUnions.f k L = some true := by
  apply Ev.rounds
  obtain ⟨h0, h1⟩ := h0
  have hr : ∀ l ∈ L, l.length ≤ 349525 := by
    intro l hl
    have : l.length ≤ L.flatten.length := by
      obtain ⟨a, b, rfl⟩ := List.append_of_mem hl
      simp
      omega
    omega
  have hc := clips_len L.flatten
  have hU := union_ev L (by omega) (fun l hl => by have := hr l hl; omega) (by omega)
  have hR := sweep_union L (by omega) (by omega)
  unfold barrowlaw01_SpanUnions.f
  have hA := union_ev [[(⟨3, 3⟩ : S26)], [], [⟨1, 2⟩]] (by simp) (by intro x hx; simp at hx; rcases hx with rfl | rfl | rfl <;> simp) (Nat.le_trans (clips_len _) (by simp))
  have e3 : canon ([[(⟨3, 3⟩ : S26)], [], [⟨1, 2⟩]] : List (List S26)).flatten = [⟨1, 3⟩] := by
    refine canon_of (P := fun n => 1 ≤ n ∧ n ≤ 3) ⟨by simp [Norm, NormFrom], fun n => ?_⟩ _ (fun n => ?_)
    · rw [mem_cons]; simp [mem_nil]; omega
    · have : ([[(⟨3, 3⟩ : S26)], [], [⟨1, 2⟩]] : List (List S26)).flatten = [⟨3, 3⟩, ⟨1, 2⟩] := rfl
      rw [this, mem_cons, mem_cons]; simp [mem_nil]; omega
  rw [e3] at hA
  refine Ev.bind hA ?_
  have e : rd_T26 [(⟨1, 3⟩ : S26)] 0 = ⟨1, 3⟩ := rfl
  have e2 : (([(⟨1, 3⟩ : S26)].length : Int)) = 1 := rfl
  simp only [e, e2, if_true]
  simp only [if_pos (show (0 : Int) < 1 by decide)]
  have hN := union_ev [] (by simp) (by simp) (Nat.le_trans (clips_len _) (by simp))
  have e4 : canon ([] : List (List S26)).flatten = [] := canon_norm (show Norm [] from trivial)
  rw [e4] at hN
  refine Ev.bind hN ?_
  rw [show ((([] : List S26).length : Int) != 0) = false from rfl]
  refine Ev.succ ?_
  simp only [barrowlaw01_SpanUnions.j0, Bool.false_eq_true, if_false]
  unfold barrowref01_Union.f
  refine Ev.bind (Ev.bind hR (Ev.now _)) ?_
  exact unions_l0 L _ h0 hr hU (canon_norm' _).fit [] L rfl
end Go.Proofs.Yteldhpneegccjaa.Pure
