/- SpanGrows in plain Lean. -/
import Derived.Test.YteldhpneegccjaaAlP
import Derived.Test.YteldhpneegccjaaGx56
namespace Go.Proofs.Yteldhpneegccjaa.Pure
open Go.RowKit Go.Proofs.Yteldhpneegccjaa.G Go.Proofs.YteldhpneegccjaaW.PrintWords Go.Proofs.YteldhpneegccjaaW.PrintLast Go.Proofs.YteldhpneegccjaaW.PrintMore
set_option linter.unusedVariables false

theorem mem_one (n x : Int) (hn : 1 ≤ n ∧ n ≤ 1000000000) : Mem [⟨n, n⟩] x ↔ x = n := by
  rw [mem_cons]; simp [mem_nil]; omega
theorem norm_nil {l : List S26} (h : Norm l) (he : ∀ n, ¬ Mem l n) : l = [] :=
  Rep.unique (P := fun _ => False) ⟨h, fun n => ⟨he n, fun hf => hf.elim⟩⟩ ⟨trivial, fun n => ⟨mem_nil n, fun hf => hf.elim⟩⟩
theorem size_put (l : List S26) (n : Int) (hn : 1 ≤ n ∧ n ≤ 1000000000) (hl : Norm l) : sizeL (canon (l ++ [⟨n, n⟩])) = sizeL l + (if memB l n = true then 0 else 1) := by
  rw [sizeL_card (canon_norm' _), sizeL_card hl]
  obtain ⟨N, hN⟩ : ∃ N : Nat, N = 1000000000 := ⟨_, rfl⟩
  rw [← hN]
  have e : ∀ x, memB (canon (l ++ [⟨n, n⟩])) x = (memB l x || decide (x = n)) := by
    intro x
    rw [Bool.eq_iff_iff, Bool.or_eq_true, memB_iff, memB_iff, canon_mem, mem_append, mem_one n x hn, decide_eq_true_eq]
  rw [card_congr e]
  have h1 := card_or (memB l) (fun x => decide (x = n)) N
  have h2 := card_one n (n := N) hn.1 (by omega)
  by_cases hm : memB l n = true
  · rw [if_pos hm]
    have h3 : card (fun x => memB l x && decide (x = n)) N = card (fun x => decide (x = n)) N := card_congr (fun x => by
      by_cases hx : x = n
      · subst hx; rw [hm]; rfl
      · rw [decide_eq_false hx, Bool.and_false]) N
    omega
  · rw [if_neg hm]
    have h3 : card (fun x => memB l x && decide (x = n)) N = 0 := card_none (fun x _ _ => by
      by_cases hx : x = n
      · subst hx; simp [hm]
      · rw [decide_eq_false hx, Bool.and_false])
    omega
theorem rdI (pre suf : List Int) (r : Int) : rd (pre ++ r :: suf) (pre.length : Int) = r := by
  unfold rd
  rw [Int.toNat_natCast, List.getD_eq_getElem?_getD, List.getElem?_append_right (Nat.le_refl _), Nat.sub_self]
  rfl

/-- The second half: dropped again. -/
theorem grows_l1 (row : List Int) (hr : row.length < 4611686018427387904) (pre suf : List Int) (hp : row = pre ++ suf) : ∀ (x : List S26), Norm x → (∀ n, Mem x n → n ∈ suf) →
    Ev (fun k => barrowlaw01_SpanGrows.l1 k row x (pre.length : Int)) true := by
  induction suf generalizing pre with
  | nil =>
    intro x hx hs
    refine Ev.step (f := fun _ => some true) (fun k => ?_) (Ev.now _)
    simp only [barrowlaw01_SpanGrows.l1]
    rw [if_neg (by rw [hp]; simp), norm_nil hx (fun n h => by simpa using hs n h)]
    rfl
  | cons r t ih =>
    intro x hx hs
    have e1 : wrap64 ((pre.length : Int) + 1) = ((pre ++ [r]).length : Int) := by rw [w64_nat _ (by rw [hp] at hr; simp at hr; omega)]; simp
    have hlt : (pre.length : Int) < (row.length : Int) := by rw [hp]; simp; omega
    have hget : rd row (pre.length : Int) = r := by rw [hp]; exact rdI pre t r
    have hI := ih (pre ++ [r]) (by rw [hp]; simp)
    by_cases hv : 1 ≤ r ∧ r ≤ 1000000000
    · obtain ⟨R, hRep, hR⟩ := drop_ev x r hx.fit
      rw [if_pos hv] at hR
      have hm : memB R r = false := by
        rw [Bool.eq_false_iff]
        intro h
        have := (hRep.2 r).1 ((memB_iff _ _).1 h)
        exact this.2 ((mem_one r r hv).2 rfl)
      refine Ev.step (f := fun k => barrowlaw01_SpanGrows.j5 k row x (pre.length : Int) r false) (fun k => ?_) (Ev.step (f := fun k => (span_Drop.f k x r).bind fun b => if b.2 = 0 then (span_Has.f b.1 r).bind fun t => if t = true then some false else barrowlaw01_SpanGrows.l1 k row b.1 ((pre ++ [r]).length : Int) else some false) (fun k => ?_) (Ev.bind hR (k := ?_)))
      · simp only [barrowlaw01_SpanGrows.l1]
        rw [if_pos hlt, if_pos (by omega), hget, if_neg (by omega), decide_eq_false (by omega)]
      · rw [barrowlaw01_SpanGrows.j5, if_neg (by decide), e1]
      · refine Ev.congr (f := fun k => barrowlaw01_SpanGrows.l1 k row R ((pre ++ [r]).length : Int)) (fun k => ?_) (hI R hRep.1 (fun n hn => ?_))
        · rw [if_pos rfl, has_eq, hm]
          rfl
        · have h1 := (hRep.2 n).1 hn
          have h2 := hs n h1.1
          rw [List.mem_cons] at h2
          rcases h2 with h2 | h2
          · exact absurd ((mem_one r n hv).2 h2) h1.2
          · exact h2
    · refine Ev.step (f := fun k => barrowlaw01_SpanGrows.j5 k row x (pre.length : Int) r true) (fun k => ?_) (Ev.step (fun k => ?_) (hI x hx (fun n hn => ?_)))
      · simp only [barrowlaw01_SpanGrows.l1]
        rw [if_pos hlt, if_pos (by omega), hget]
        by_cases h1 : r < 1
        · rw [if_pos h1]
        · rw [if_neg h1, decide_eq_true (by omega)]
      · rw [barrowlaw01_SpanGrows.j5, if_pos rfl, e1]
      · have h2 := hs n hn
        rw [List.mem_cons] at h2
        rcases h2 with h2 | h2
        · subst h2; exact absurd ⟨hn.1, hn.2.1⟩ hv
        · exact h2
/-- The first half: put in one by one. -/
theorem grows_l0 (row : List Int) (hr : row.length < 4611686018427387904) (pre suf : List Int) (hp : row = pre ++ suf) : ∀ (x : List S26), Norm x → (∀ n, Mem x n → n ∈ row) →
    Ev (fun k => barrowlaw01_SpanGrows.l0 k row x (sizeL x) (pre.length : Int)) true := by
  induction suf generalizing pre with
  | nil =>
    intro x hx hs
    refine Ev.step (f := fun k => barrowlaw01_SpanGrows.l1 k row x 0) (fun k => ?_) (grows_l1 row hr [] row rfl x hx hs)
    simp only [barrowlaw01_SpanGrows.l0]
    rw [if_neg (by rw [hp]; simp)]
  | cons r t ih =>
    intro x hx hs
    have e1 : wrap64 ((pre.length : Int) + 1) = ((pre ++ [r]).length : Int) := by rw [w64_nat _ (by rw [hp] at hr; simp at hr; omega)]; simp
    have hlt : (pre.length : Int) < (row.length : Int) := by rw [hp]; simp; omega
    have hget : rd row (pre.length : Int) = r := by rw [hp]; exact rdI pre t r
    have hI := ih (pre ++ [r]) (by rw [hp]; simp)
    have hlen := hx.len
    have hP := put_ev x r (by omega)
    by_cases hv : 1 ≤ r ∧ r ≤ 1000000000
    · rw [if_pos hv] at hP
      have hY := canon_norm' (x ++ [⟨r, r⟩])
      have hYm : ∀ n, Mem (canon (x ++ [⟨r, r⟩])) n ↔ Mem x n ∨ n = r := fun n => by rw [canon_mem, mem_append, mem_one r n hv]
      have hsz := size_put x r hv hx
      have h0 := sizeL_nonneg hx
      have h1 := sizeL_le hx
      generalize hYe : canon (x ++ [⟨r, r⟩]) = Y at *
      have hm : memB Y r = true := (memB_iff _ _).2 ((hYm r).2 (.inr rfl))
      have hrow : r ∈ row := by rw [hp]; simp
      have hI' := hI Y hY (fun n hn => ((hYm n).1 hn).elim (hs n) (fun e => by rw [e]; exact hrow))
      have hSz := size_ev Y hY.fit
      rw [canon_norm hY] at hSz
      refine Ev.step (f := fun k => (span_Put.f k x r).bind fun b => barrowlaw01_SpanGrows.j2 k row x (sizeL x) (pre.length : Int) r (memB x r) b.1 b.2 false) (fun k => ?_) (Ev.bind hP (k := Ev.step (f := fun k => barrowlaw01_SpanGrows.j3 k row (sizeL x) (pre.length : Int) (memB x r) Y false) (fun k => ?_) ?_))
      · simp only [barrowlaw01_SpanGrows.l0]
        rw [if_pos hlt, if_pos (by omega), hget, has_eq]
        simp only [Option.bind_some]
        rw [decide_eq_false (by omega)]
        simp only [if_neg (show ¬ r < 1 by omega)]
      · rw [barrowlaw01_SpanGrows.j2, if_neg (by decide), if_pos rfl, has_eq, hm]
        rfl
      · by_cases hmx : memB x r = true
        · rw [hmx]
          rw [if_pos hmx] at hsz
          refine Ev.step (f := fun k => (span_Size.f k Y).bind fun s => if s = sizeL x then barrowlaw01_SpanGrows.l0 k row Y (sizeL x) ((pre ++ [r]).length : Int) else some false) (fun k => ?_) (Ev.bind hSz (k := ?_))
          · rw [barrowlaw01_SpanGrows.j3, if_neg (by decide), if_pos rfl, e1]
          · have : sizeL Y = sizeL x := by omega
            simp only [if_pos this]
            rw [this] at hI'
            exact hI'
        · rw [if_neg hmx] at hsz
          rw [Bool.eq_false_iff.2 hmx]
          refine Ev.step (f := fun k => (span_Size.f k Y).bind fun s => if s = sizeL x + 1 then barrowlaw01_SpanGrows.l0 k row Y (sizeL x + 1) ((pre ++ [r]).length : Int) else some false) (fun k => ?_) (Ev.bind hSz (k := ?_))
          · rw [barrowlaw01_SpanGrows.j3, if_neg (by decide), if_neg (by decide), e1, w64 (x := sizeL x + 1) (by omega) (by omega)]
          · simp only [if_pos hsz]
            rw [hsz] at hI'
            exact hI'
    · rw [if_neg hv] at hP
      refine Ev.step (f := fun k => (span_Put.f k x r).bind fun b => barrowlaw01_SpanGrows.j2 k row x (sizeL x) (pre.length : Int) r (memB x r) b.1 b.2 true) (fun k => ?_) (Ev.bind hP (k := Ev.step (fun k => ?_) (hI x hx hs)))
      · simp only [barrowlaw01_SpanGrows.l0]
        rw [if_pos hlt, if_pos (by omega), hget, has_eq]
        simp only [Option.bind_some]
        by_cases h1 : r < 1
        · simp only [if_pos h1]
        · simp only [if_neg h1]
          rw [decide_eq_true (by omega)]
      · rw [barrowlaw01_SpanGrows.j2, if_pos rfl, if_pos rfl, if_pos (by simp), e1]
theorem SpanGrows : barrowlaw01_SpanGrows.Pure := by
  intro l0 h1 h2 h3
  apply Ev.rounds
  unfold barrowlaw01_SpanGrows.f
  have hP := put_ev [] 3 (by simp)
  rw [if_pos (by decide), List.nil_append] at hP
  have hn : Norm [(⟨3, 3⟩ : S26)] := by simp [Norm, NormFrom]
  rw [canon_norm hn] at hP
  refine Ev.bind hP (k := Ev.congr (f := fun k => (span_Size.f k [⟨3, 3⟩]).bind fun t => barrowlaw01_SpanGrows.j0 k l0 (t != 1)) (fun k => by rw [if_pos rfl]) (Ev.bind (size_ev [⟨3, 3⟩] hn.fit) (k := ?_)))
  rw [canon_norm hn]
  refine Ev.step (f := fun k => barrowlaw01_SpanGrows.l0 k l0 [] 0 0) (fun k => ?_) (grows_l0 l0 (by omega) [] l0 rfl [] trivial (fun n h => absurd h (mem_nil n)))
  rw [barrowlaw01_SpanGrows.j0, if_neg (by decide)]
end Go.Proofs.Yteldhpneegccjaa.Pure
