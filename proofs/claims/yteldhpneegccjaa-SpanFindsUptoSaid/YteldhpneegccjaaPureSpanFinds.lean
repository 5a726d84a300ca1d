/- PureSpanFinds in plain Lean. -/
import Derived.Test.YteldhpneegccjaaAlF
import Derived.Test.YteldhpneegccjaaRfG
import Derived.Test.YteldhpneegccjaaGx42
import Derived.Test.YteldhpneegccjaaBr
namespace Go.Proofs.Yteldhpneegccjaa.Pure
open Go.RowKit Go.Proofs.Yteldhpneegccjaa.G Go.Proofs.YteldhpneegccjaaW.PrintWords Go.Proofs.YteldhpneegccjaaW.PrintLast Go.Proofs.YteldhpneegccjaaW.PrintMore
set_option linter.unusedVariables false

theorem gapL_spec {l : List S26} : ∀ {last : Int}, -1 ≤ last → NormFrom last l → ∀ {g : Int}, 1 ≤ g → FirstOf (fun q => Hole l q ∧ g ≤ q) 1 (gapL l g) := by
  induction l with
  | nil =>
    intro last _ _ g hg
    simp only [gapL]
    by_cases hc : g > 1000000000
    · rw [if_pos hc]
      exact .inl ⟨rfl, fun q hq => by have := hq.1.2.1; have := hq.2; omega⟩
    · rw [if_neg hc]
      exact .inr ⟨⟨⟨hg, by omega, mem_nil g⟩, Int.le_refl _⟩, hg, fun q hq _ => hq.2⟩
  | cons r t ih =>
    intro last hl h g hg
    obtain ⟨h1, h2, h3, h4⟩ := h
    have hm : ∀ q, Hole (r :: t) q ↔ Hole t q ∧ ¬ (r.f0 ≤ q ∧ q ≤ r.f1) := by
      intro q
      unfold Hole
      rw [mem_cons]
      constructor
      · rintro ⟨a, b, c⟩
        exact ⟨⟨a, b, fun hh => c (.inr hh)⟩, fun hh => c (.inl ⟨a, b, hh⟩)⟩
      · rintro ⟨⟨a, b, c⟩, d⟩
        refine ⟨a, b, ?_⟩
        rintro (⟨_, _, e⟩ | e)
        · exact d e
        · exact c e
    simp only [gapL]
    by_cases hc : r.f0 ≤ g ∧ g ≤ r.f1
    · rw [if_pos hc]
      refine (ih (last := r.f1) (by omega) h4 (g := r.f1 + 1) (by omega)).congr (fun q => ?_)
      rw [hm]
      constructor
      · rintro ⟨a, b⟩; exact ⟨⟨a, by omega⟩, by omega⟩
      · rintro ⟨⟨a, b⟩, c⟩; exact ⟨a, by omega⟩
    · rw [if_neg hc]
      have hI := ih (last := r.f1) (by omega) h4 (g := g) hg
      rcases hI with ⟨e, hI⟩ | ⟨i1, i2, i3⟩
      · rw [e]
        exact .inl ⟨rfl, fun q hq => hI q ⟨((hm q).1 hq.1).1, hq.2⟩⟩
      · -- the answer behind the run is none of the run: it is g itself, or behind
        have hv : ¬ (r.f0 ≤ gapL t g ∧ gapL t g ≤ r.f1) := by
          rintro ⟨a, b⟩
          -- then g lies below the run, and is a hole itself
          have hgl : g < r.f0 := by omega
          have : gapL t g ≤ g := i3 g ⟨⟨hg, by omega, fun hh => by have := h4.low hh; omega⟩, Int.le_refl _⟩ hg
          omega
        refine .inr ⟨⟨(hm _).2 ⟨i1.1, hv⟩, i1.2⟩, i2, fun q hq hq1 => i3 q ⟨((hm q).1 hq.1).1, hq.2⟩ hq1⟩
theorem firstL_spec {l : List S26} : ∀ {last : Int}, -1 ≤ last → NormFrom last l → ∀ {n : Int}, FirstOf (Mem l) n (firstL l n) := by
  induction l with
  | nil => intro last _ _ n; exact .inl ⟨rfl, fun q hq => absurd hq (mem_nil q)⟩
  | cons r t ih =>
    intro last hl h n
    obtain ⟨h1, h2, h3, h4⟩ := h
    have ex : mx r.f0 n = if r.f0 < n then n else r.f0 := rfl
    simp only [firstL]
    by_cases hc : r.f1 ≥ n
    · rw [if_pos hc, ex]
      refine .inr ⟨(mem_cons _ _ _).2 (.inl ?_), ?_, fun q hq hnq => ?_⟩
      · split <;> exact ⟨by omega, by omega, by omega, by omega⟩
      · split <;> omega
      · rcases (mem_cons r t q).1 hq with ⟨_, _, h5, h6⟩ | h5
        · split <;> omega
        · have := h4.low h5; split <;> omega
    · rw [if_neg hc]
      rcases ih (last := r.f1) (by omega) h4 (n := n) with ⟨e, hI⟩ | ⟨i1, i2, i3⟩
      · rw [e]
        refine .inl ⟨rfl, fun q hq => ?_⟩
        rcases (mem_cons r t q).1 hq with ⟨_, _, h5, h6⟩ | h5
        · omega
        · exact hI q h5
      · refine .inr ⟨(mem_cons _ _ _).2 (.inr i1), i2, fun q hq hnq => ?_⟩
        rcases (mem_cons r t q).1 hq with ⟨_, _, h5, h6⟩ | h5
        · omega
        · exact i3 q h5 hnq
theorem refHas_l0 (n : Int) (row : List S26) (hr : row.length < 8796093022208) (pre suf : List S26) (hp : row = pre ++ suf) :
    Ev (fun k => barrowref01_Has.l0 k row n (pre.length : Int)) (suf.any (inR n)) := by
  induction suf generalizing pre with
  | nil =>
    refine Ev.step (f := fun _ => some false) (fun k => ?_) (Ev.now _)
    rw [barrowref01_Has.l0, if_neg (by rw [hp]; simp)]
  | cons r t ih =>
    have e1 : wrap64 ((pre.length : Int) + 1) = ((pre ++ [r]).length : Int) := by rw [w64_nat _ (by rw [hp] at hr; simp at hr; omega)]; simp
    have hlt : (pre.length : Int) < (row.length : Int) := by rw [hp]; simp; omega
    have hget : rd_T26 row (pre.length : Int) = r := by rw [hp]; exact rdT pre t r
    rw [List.any_cons]
    by_cases hc : r.f0 ≤ n ∧ n ≤ r.f1
    · rw [show inR n r = true from by unfold inR; rw [decide_eq_true hc.1, decide_eq_true hc.2]; rfl, Bool.true_or]
      refine Ev.step (f := fun _ => some true) (fun k => ?_) (Ev.now _)
      rw [barrowref01_Has.l0, if_pos hlt, if_pos (by omega), hget, if_pos hc.1, if_pos hc.2]
    · rw [show inR n r = false from by unfold inR; rw [Bool.eq_false_iff]; intro h; simp at h; exact hc h, Bool.false_or]
      refine Ev.step (fun k => ?_) (ih (pre ++ [r]) (by rw [hp]; simp))
      rw [barrowref01_Has.l0, if_pos hlt, if_pos (by omega), hget, e1]
      split
      · rw [if_neg (by omega)]
      · rfl
theorem refHas_ev (l : List S26) (n : Int) (h : l.length < 8796093022208) : Ev (fun k => barrowref01_Has.f k l n) (memB l n) := by
  unfold barrowref01_Has.f memB
  by_cases h1 : n < 1
  · simp only [if_pos h1]
    rw [decide_eq_false (show ¬ 1 ≤ n by omega), Bool.false_and, Bool.false_and]
    refine Ev.succ ?_
    simp only [barrowref01_Has.j0, if_true]
    exact Ev.now _
  · simp only [if_neg h1]
    by_cases h2 : n > 1000000000
    · rw [decide_eq_true h2, decide_eq_false (show ¬ n ≤ 1000000000 by omega), Bool.and_false, Bool.false_and]
      refine Ev.succ ?_
      simp only [barrowref01_Has.j0, if_true]
      exact Ev.now _
    · rw [decide_eq_false h2, decide_eq_true (show 1 ≤ n by omega), decide_eq_true (show n ≤ 1000000000 by omega), Bool.true_and, Bool.true_and]
      refine Ev.succ ?_
      simp only [barrowref01_Has.j0, Bool.false_eq_true, if_false]
      exact refHas_l0 n l h [] l rfl
theorem SpanFinds (l0 : List S26) (a1 : Int) (h0 : l0.length ≤ 349525) (w0 : Br.WfR l0) (w1 : (Lit.int .i64 a1).wf = true) : ∃ k, barrowlaw01_SpanFinds.f k l0 a1 = some true := by
  apply Ev.rounds
  have b1 := Br.wf64 w1
  have f0 : Fit l0 := by unfold Fit; omega
  have nA := canon_norm' l0
  unfold barrowlaw01_SpanFinds.f
  have e1 : span_Has.f [(⟨-4, 2⟩ : S26)] 2 = some true := by rw [has_eq]; decide
  have e2 : span_Has.f [(⟨-4, 2⟩ : S26)] 0 = some false := by rw [has_eq]; decide
  simp only [e1, e2, Option.bind_some, if_true, Bool.false_eq_true, if_false]
  have hg := gap_ev [] (-7) (by simp [Fit])
  rw [canon_norm (show Norm [] from trivial), show gapL [] (mx (-7) 1) = 1 from by decide] at hg
  refine Ev.bind hg ?_
  rw [bne_self_eq_false]
  refine Ev.succ ?_
  simp only [barrowlaw01_SpanFinds.j0, Bool.false_eq_true, if_false]
  obtain ⟨u, hu, hFu⟩ := refFirst_ev l0 a1 (by omega)
  obtain ⟨v, hv, hFv⟩ := refGap_ev l0 a1 h0
  refine Ev.bind (refHas_ev l0 a1 (by omega)) (Ev.bind hu (Ev.bind hv ?_))
  simp only [has_eq, Option.bind_some, beq_self_eq_true, if_true]
  have eu : firstL (canon l0) a1 = u := FirstOf.unique (fun q hq => hq.1) ((firstL_spec (by omega) nA).congr (fun q => canon_mem l0 q)) hFu
  have ev : gapL (canon l0) (mx a1 1) = v := by
    refine FirstOf.unique (P := fun q => Hole l0 q ∧ a1 ≤ q) (fun q hq => hq.1.1) (n := 1) ((gapL_spec (by omega) nA (g := mx a1 1) (by unfold mx; split <;> omega)).congr (fun q => ?_)) hFv
    rw [hole_canon]
    unfold mx
    constructor
    · rintro ⟨a, b⟩; exact ⟨a, by split at b <;> omega⟩
    · rintro ⟨a, b⟩; have := a.1; exact ⟨a, by split <;> omega⟩
  refine Ev.bind (first_ev l0 a1 f0) ?_
  simp only [eu, if_true]
  refine Ev.bind (gap_ev l0 a1 f0) ?_
  simp only [ev, beq_self_eq_true]
  exact Ev.now _
end Go.Proofs.Yteldhpneegccjaa.Pure
