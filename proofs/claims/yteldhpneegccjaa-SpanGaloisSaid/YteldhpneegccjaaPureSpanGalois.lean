/- SpanGalois in plain Lean. -/
import Derived.Test.YteldhpneegccjaaAlR
import Derived.Test.YteldhpneegccjaaAlF
import Derived.Test.YteldhpneegccjaaGx54
import Derived.Test.YteldhpneegccjaaBr
namespace Go.Proofs.Yteldhpneegccjaa.Pure
open Go.RowKit Go.Proofs.Yteldhpneegccjaa.G Go.Proofs.YteldhpneegccjaaW.PrintWords Go.Proofs.YteldhpneegccjaaW.PrintLast Go.Proofs.YteldhpneegccjaaW.PrintMore
set_option linter.unusedVariables false

theorem rankL_mono {l : List S26} : ∀ {last : Int}, NormFrom last l → ∀ {x y : Int}, x ≤ y → rankL l x ≤ rankL l y := by
  induction l with
  | nil => intro _ _ _ _ _; exact Int.le_refl _
  | cons r t ih =>
    intro last h x y hxy
    obtain ⟨h1, h2, h3, h4⟩ := h
    have := ih h4 hxy
    simp only [rankL]
    split <;> split <;> (try split) <;> (try split) <;> omega
theorem rankL_nonneg {l : List S26} : ∀ {last : Int}, NormFrom last l → ∀ {x : Int}, 0 ≤ rankL l x := by
  induction l with
  | nil => intro _ _ _; exact Int.le_refl _
  | cons r t ih =>
    intro last h x
    obtain ⟨h1, h2, h3, h4⟩ := h
    have := ih h4 (x := x)
    simp only [rankL]
    split <;> (try split) <;> omega
theorem rankL_le {l : List S26} (h : Norm l) (x : Int) : rankL l x ≤ sizeL l := by
  rcases Int.lt_or_le x 1000000000 with h1 | h1
  · have := rankL_mono h (x := x) (y := 1000000000) (by omega)
    rw [rankL_size h (Int.le_refl _)] at this
    exact this
  · rw [rankL_size h h1]
    exact Int.le_refl _
theorem pick_spec {l : List S26} : ∀ {last : Int}, -1 ≤ last → NormFrom last l → ∀ {n : Int}, 1 ≤ n → n ≤ sizeL l → Mem l (pickL l n) ∧ rankL l (pickL l n) = n ∧ rankL l (pickL l n - 1) = n - 1 := by
  induction l with
  | nil => intro _ _ _ n h1 h2; simp only [sizeL] at h2; omega
  | cons r t ih =>
    intro last hl h n hn1 hn2
    obtain ⟨h1, h2, h3, h4⟩ := h
    simp only [sizeL] at hn2
    by_cases hc : n ≤ r.f1 - r.f0 + 1
    · have e : pickL (r :: t) n = r.f0 + n - 1 := by simp only [pickL]; rw [if_pos hc]
      rw [e]
      refine ⟨(mem_cons _ _ _).2 (.inl ⟨by omega, by omega, by omega, by omega⟩), ?_, ?_⟩
      · simp only [rankL]
        rw [rankL_high h4 (by omega), if_pos (by omega)]
        split <;> omega
      · simp only [rankL]
        rw [rankL_high h4 (by omega)]
        split <;> (try split) <;> omega
    · have e : pickL (r :: t) n = pickL t (n - (r.f1 - r.f0 + 1)) := by simp only [pickL]; rw [if_neg hc]
      rw [e]
      obtain ⟨m1, m2, m3⟩ := ih (last := r.f1) (by omega) h4 (n := n - (r.f1 - r.f0 + 1)) (by omega) (by omega)
      have := h4.low m1
      refine ⟨(mem_cons _ _ _).2 (.inr m1), ?_, ?_⟩
      · simp only [rankL]
        rw [m2, if_pos (by omega), if_pos (by omega)]
        omega
      · simp only [rankL]
        rw [m3, if_pos (by omega), if_pos (by omega)]
        omega
theorem pick_none {l : List S26} : ∀ {n : Int}, sizeL l < n → pickL l n = 0 ∨ ∃ r ∈ l, r.f1 < r.f0 := by
  induction l with
  | nil => intro n _; exact .inl rfl
  | cons r t ih =>
    intro n h
    simp only [sizeL] at h
    by_cases hr : r.f1 < r.f0
    · exact .inr ⟨r, by simp, hr⟩
    · by_cases hc : n ≤ r.f1 - r.f0 + 1
      · have : sizeL t < 0 ∨ 0 ≤ sizeL t := by omega
        rcases this with h5 | h5
        · have : ∃ s ∈ t, s.f1 < s.f0 := by
            clear ih h
            induction t with
            | nil => simp [sizeL] at h5
            | cons s u ihu =>
              by_cases hs : s.f1 < s.f0
              · exact ⟨s, by simp, hs⟩
              · simp only [sizeL] at h5
                obtain ⟨s', hs', h6⟩ := ihu (by omega)
                exact ⟨s', by simp [hs'], h6⟩
          obtain ⟨s, hs, h6⟩ := this
          exact .inr ⟨s, by simp [hs], h6⟩
        · omega
      · rcases ih (n := n - (r.f1 - r.f0 + 1)) (by omega) with h5 | ⟨s, hs, h6⟩
        · left; simp only [pickL]; rw [if_neg hc, h5]
        · exact .inr ⟨s, by simp [hs], h6⟩
theorem normFrom_all {l : List S26} : ∀ {last : Int}, NormFrom last l → ∀ r ∈ l, r.f0 ≤ r.f1 := by
  induction l with
  | nil => intro _ _ r hr; simp at hr
  | cons s t ih =>
    intro last h r hr
    rcases List.mem_cons.1 hr with rfl | hr
    · exact h.2.1
    · exact ih h.2.2.2 r hr
theorem pick_over {l : List S26} (h : Norm l) {n : Int} (hn : sizeL l < n) : pickL l n = 0 := by
  rcases pick_none hn with h1 | ⟨r, hr, h2⟩
  · exact h1
  · have := normFrom_all h r hr; omega
theorem first_spec {l : List S26} : ∀ {last : Int}, -1 ≤ last → NormFrom last l → ∀ {m v : Int}, Mem l v → m ≤ v → (∀ q, Mem l q → m ≤ q → v ≤ q) → firstL l m = v := by
  induction l with
  | nil => intro _ _ _ m v hv _ _; exact absurd hv (mem_nil v)
  | cons r t ih =>
    intro last hl h m v hv hmv hle
    obtain ⟨h1, h2, h3, h4⟩ := h
    simp only [firstL]
    by_cases hc : r.f1 ≥ m
    · rw [if_pos hc]
      have ex : mx r.f0 m = if r.f0 < m then m else r.f0 := rfl
      have hq : Mem (r :: t) (mx r.f0 m) := (mem_cons _ _ _).2 (.inl (by rw [ex]; split <;> exact ⟨by omega, by omega, by omega, by omega⟩))
      have := hle _ hq (by rw [ex]; split <;> omega)
      rcases (mem_cons r t v).1 hv with ⟨_, _, h5, h6⟩ | h5
      · rw [ex] at this ⊢; split at this <;> split <;> omega
      · have := h4.low h5
        have : mx r.f0 m ≤ r.f1 := by rw [ex]; split <;> omega
        omega
    · rw [if_neg hc]
      refine ih (last := r.f1) (by omega) h4 ?_ hmv (fun q hq hmq => hle q ((mem_cons _ _ _).2 (.inr hq)) hmq)
      rcases (mem_cons r t v).1 hv with ⟨_, _, h5, h6⟩ | h5
      · omega
      · exact h5
theorem rank_at {l : List S26} (h : Norm l) {q : Int} (hq : Mem l q) : rankL l q = rankL l (q - 1) + 1 := by
  have := rankL_step (by omega) h (n := q - 1) (by have := hq.1; omega) (by have := hq.2.1; omega)
  rw [show q - 1 + 1 = q from by omega, if_pos ((memB_iff l q).2 hq)] at this
  exact this

theorem SpanGalois (l0 : List S26) (a1 a2 : Int) (h0 : Fit l0) (w0 : Br.WfR l0) (w1 : (Lit.int .i64 a1).wf = true) (w2 : (Lit.int .i64 a2).wf = true) : ∃ k, barrowlaw01_SpanGalois.f k l0 a1 a2 = some true := by
  apply Ev.rounds
  have b1 := Br.wf64 w1
  have b2 := Br.wf64 w2
  have hN := canon_norm' l0
  obtain ⟨L, hL⟩ : ∃ L, canon l0 = L := ⟨_, rfl⟩
  rw [hL] at hN
  have s0 := sizeL_nonneg hN
  have s1 := sizeL_le hN
  have eP := fun n hn => pick_ev l0 n h0 hn
  have eR := fun n => rank_ev l0 n h0
  have eF := fun n => first_ev l0 n h0
  have eS := size_ev l0 h0
  rw [hL] at eS
  simp only [hL] at eP eR eF
  have n46 : Norm [(⟨4, 6⟩ : S26)] := by simp [Norm, NormFrom]
  unfold barrowlaw01_SpanGalois.f
  refine Ev.bind (pick_ev [⟨4, 6⟩] 2 n46.fit (by omega)) ?_
  rw [canon_norm n46]
  have e5 : (if (2 : Int) < 1 then 0 else pickL [(⟨4, 6⟩ : S26)] 2) = 5 := by decide
  simp only [e5, if_true]
  refine Ev.bind (rank_ev [⟨4, 6⟩] 5 n46.fit) ?_
  rw [canon_norm n46]
  have e2 : (rankL [(⟨4, 6⟩ : S26)] 5 != 2) = false := by decide
  rw [e2]
  refine Ev.succ ?_
  simp only [barrowlaw01_SpanGalois.j0, Bool.false_eq_true, if_false]
  refine Ev.bind eS (Ev.bind (eP a2 b2.2) ?_)
  -- the second half, for any number of rounds
  have key : Ev (fun k => barrowlaw01_SpanGalois.j2 k l0 a1 (sizeL L)) true := by
    refine Ev.succ ?_
    simp only [barrowlaw01_SpanGalois.j2]
    refine Ev.bind (eR a1) ?_
    have r0 := rankL_nonneg hN (x := a1)
    have r1 := rankL_le hN a1
    obtain ⟨r, hr⟩ : ∃ r, rankL L a1 = r := ⟨_, rfl⟩
    rw [hr] at r0 r1 ⊢
    simp only [if_neg (show ¬ r < 0 by omega)]
    rw [decide_eq_false (show ¬ r > sizeL L by omega)]
    refine Ev.succ ?_
    simp only [barrowlaw01_SpanGalois.j3, Bool.false_eq_true, if_false]
    refine Ev.bind (eP r (by omega)) ?_
    obtain ⟨p, hp⟩ : ∃ p, (if r < 1 then 0 else pickL L r) = p := ⟨_, rfl⟩
    rw [hp]
    have pfacts : (r = 0 ∧ p = 0) ∨ (1 ≤ r ∧ Mem L p ∧ rankL L p = r ∧ p ≤ a1) := by
      by_cases h : r < 1
      · rw [if_pos h] at hp; exact .inl ⟨by omega, hp.symm⟩
      · rw [if_neg h] at hp
        obtain ⟨m1, m2, m3⟩ := pick_spec (by omega) hN (n := r) (by omega) r1
        rw [hp] at m1 m2 m3
        refine .inr ⟨by omega, m1, m2, ?_⟩
        rcases Int.lt_or_le a1 p with h5 | h5
        · have := rankL_mono hN (x := a1) (y := p - 1) (by omega); omega
        · exact h5
    have p0 : 0 ≤ p ∧ p ≤ 1000000000 := by
      rcases pfacts with ⟨_, h⟩ | ⟨_, h, _⟩
      · omega
      · have := h.1; have := h.2.1; omega
    have key4 : Ev (fun k => barrowlaw01_SpanGalois.j4 k l0 a1 r p false) true := by
      refine Ev.succ ?_
      simp only [barrowlaw01_SpanGalois.j4, Bool.false_eq_true, if_false]
      rw [w64 (x := r + 1) (by omega) (by omega), w64 (x := p + 1) (by omega) (by omega)]
      refine Ev.bind (eP (r + 1) (by omega)) ?_
      rw [if_neg (show ¬ r + 1 < 1 by omega)]
      rcases Int.lt_or_le (sizeL L) (r + 1) with h5 | h5
      · rw [pick_over hN h5]
        simp only [if_true]
        exact Ev.now _
      · obtain ⟨m1, m2, m3⟩ := pick_spec (by omega) hN (n := r + 1) (by omega) h5
        obtain ⟨p', hp'⟩ : ∃ p', pickL L (r + 1) = p' := ⟨_, rfl⟩
        rw [hp'] at m1 m2 m3 ⊢
        have hm := m1.1
        have hgt : p' > a1 := by
          rcases Int.lt_or_le a1 p' with h6 | h6
          · exact h6
          · have := rankL_mono hN h6; omega
        simp only [if_neg (show ¬ p' = 0 by omega), if_pos hgt]
        refine Ev.bind (eF (p + 1)) ?_
        have hrp : rankL L p = r := by
          rcases pfacts with ⟨h6, h7⟩ | ⟨_, _, h6, _⟩
          · rw [h7, rankL_high hN (by omega)]; omega
          · exact h6
        have : firstL L (p + 1) = p' := by
          refine first_spec (by omega) hN m1 ?_ (fun q hq hpq => ?_)
          · rcases Int.lt_or_le p p' with h6 | h6
            · omega
            · have := rankL_mono hN h6; omega
          · rcases Int.lt_or_le q p' with h6 | h6
            · have h7 := rank_at hN hq
              have h8 := rankL_mono hN (x := p) (y := q - 1) (by omega)
              have h9 := rankL_mono hN (x := q) (y := p' - 1) (by omega)
              omega
            · exact h6
        rw [this, beq_self_eq_true]
        exact Ev.now _
    by_cases hgt : p > a1
    · simp only [if_pos hgt]
      rcases pfacts with ⟨h6, _⟩ | ⟨_, _, _, h6⟩
      · rw [decide_eq_false (by omega)]; exact key4
      · omega
    · simp only [if_neg hgt]
      exact key4
  by_cases hc : 1 ≤ a2 ∧ a2 ≤ sizeL L
  · simp only [if_pos (show a2 ≥ 1 by omega)]
    rw [decide_eq_true hc.2, if_neg (by omega)]
    obtain ⟨m1, m2, m3⟩ := pick_spec (by omega) hN hc.1 hc.2
    obtain ⟨p, hp⟩ : ∃ p, pickL L a2 = p := ⟨_, rfl⟩
    rw [hp] at m1 m2 m3 ⊢
    refine Ev.succ ?_
    have hm : memB l0 p = true := by rw [← canon_memB, hL]; exact (memB_iff _ _).2 m1
    simp only [barrowlaw01_SpanGalois.j1, if_true, has_eq, hm, Option.bind_some]
    refine Ev.bind (eR p) ?_
    simp only [m2, if_true]
    rw [w64 (x := p - 1) (by have := m1.1; omega) (by have := m1.2.1; omega), w64 (x := a2 - 1) (by omega) (by omega)]
    refine Ev.bind (eR (p - 1)) ?_
    simp only [m3, if_true]
    exact key
  · have hz : (if a2 < 1 then 0 else pickL L a2) = 0 := by
      split
      · rfl
      · exact pick_over hN (by omega)
    rw [hz]
    by_cases h1 : a2 ≥ 1
    · simp only [if_pos h1]
      rw [decide_eq_false (by omega)]
      refine Ev.succ ?_
      simp only [barrowlaw01_SpanGalois.j1, Bool.false_eq_true, if_false, if_true]
      exact key
    · simp only [if_neg h1]
      refine Ev.succ ?_
      simp only [barrowlaw01_SpanGalois.j1, Bool.false_eq_true, if_false, if_true]
      exact key
end Go.Proofs.Yteldhpneegccjaa.Pure
