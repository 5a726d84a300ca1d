/- What the printed Union answers: the set's own form. -/
import Derived.Test.YtmlfbgkaondljaaTh
import Derived.Test.YtmlfbgkaondljaaGx5
namespace Go.Proofs.Ytmlfbgkaondljaa.Pure
open Go.RowKit Go.Proofs.Ytmlfbgkaondljaa.G Go.Proofs.YtmlfbgkaondljaaW.PrintWords Go.Proofs.YtmlfbgkaondljaaW.PrintLast Go.Proofs.YtmlfbgkaondljaaW.PrintMore
set_option linter.unusedVariables false

theorem w64 {x : Int} (h1 : -9223372036854775808 ≤ x) (h2 : x < 9223372036854775808) : wrap64 x = x := by unfold wrap64; omega
theorem w64_nat (n : Nat) (h : n < 4611686018427387904) : wrap64 ((n : Int) + 1) = ((n + 1 : Nat) : Int) := by unfold wrap64; omega
theorem rdT (pre suf : List S28) (r : S28) : rd_T28 (pre ++ r :: suf) (pre.length : Int) = r := by
  unfold rd_T28
  rw [Int.toNat_natCast, List.getD_eq_getElem?_getD, List.getElem?_append_right (Nat.le_refl _), Nat.sub_self]
  rfl
theorem rdL (pre suf : List (List S28)) (r : List S28) : rd_L2 (pre ++ r :: suf) (pre.length : Int) = r := by
  unfold rd_L2
  rw [Int.toNat_natCast, List.getD_eq_getElem?_getD, List.getElem?_append_right (Nat.le_refl _), Nat.sub_self]
  rfl
theorem clip_eq (r : S28) : span_clip.f r.f0 r.f1 = some ((clipS r).f0, (clipS r).f1, okB r) := by
  unfold span_clip.f okB clipS mx mn
  rfl
theorem mk28 (r : S28) : (⟨r.f0, r.f1⟩ : S28) = r := rfl

/-- The printed 'add', on a list in form. -/
theorem add_eq (o : List S28) (r : S28) (h : ∀ x ∈ o, 0 ≤ x.f1 ∧ x.f1 ≤ 1000000000) (hl : o.length < 8796093022208) : span_add.f o r.f0 r.f1 = some (addS o r) := by
  unfold span_add.f
  rcases List.eq_nil_or_concat o with rfl | ⟨t, x, rfl⟩
  · rw [if_neg (by simp), if_pos (by simp)]
    rfl
  · rw [List.concat_eq_append] at *
    have hx := h x (by simp)
    have e : wrap64 (((t ++ [x]).length : Int) - 1) = (t.length : Int) := by
      rw [w64 (by rw [List.length_append, List.length_singleton]; omega) (by rw [List.length_append, List.length_singleton] at hl ⊢; omega)]; simp
    rw [e]
    have er : rd_T28 (t ++ [x]) (t.length : Int) = x := rdT t [] x
    rw [er, if_pos (by rw [List.length_append, List.length_singleton]; omega), if_pos (by omega), if_pos (by rw [List.length_append, List.length_singleton]; omega), addS_snoc, w64 (by omega) (by omega)]
    split
    · rw [Int.toNat_natCast]
      rw [List.set_append_right _ _ (Nat.le_refl _), Nat.sub_self]
      rfl
    · rfl

/-- The inner loop: the clipped runs behind what was there. -/
theorem union_l1 (L : List (List S28)) (n i : Int) (row : List S28) (R : List S28) (pre suf : List S28) (hrow : row = pre ++ suf) (hr : row.length ≤ 8796093022208) : ∀ (acc : List S28), acc.length + (clips suf).length ≤ 8796093022208 →
    Ev (fun k => span_Union.l0 k (acc ++ clips suf) L n (wrap64 (i + 1))) R → Ev (fun k => span_Union.l1 k acc L n i row (row.length : Int) (pre.length : Int)) R := by
  induction suf generalizing pre with
  | nil =>
    intro acc _ hE
    refine Ev.step (f := fun k => span_Union.l0 k (acc ++ clips []) L n (wrap64 (i + 1))) (fun k => ?_) hE
    simp only [span_Union.l1]
    rw [if_neg (by rw [hrow]; simp)]
    simp [clips]
  | cons r t ih =>
    intro acc hl hE
    have e1 : wrap64 ((pre.length : Int) + 1) = ((pre ++ [r]).length : Int) := by rw [w64_nat _ (by rw [hrow] at hr; simp at hr; omega)]; simp
    have hrow' : row = (pre ++ [r]) ++ t := by rw [hrow]; simp
    have hcl : clips (r :: t) = (if okB r = true then [clipS r] else []) ++ clips t := by
      unfold clips
      rw [List.filter_cons]
      split <;> simp
    have hlt : (pre.length : Int) < (row.length : Int) := by rw [hrow]; simp; omega
    have hget : rd_T28 row (pre.length : Int) = r := by rw [hrow]; exact rdT pre t r
    rw [hcl] at hl hE
    by_cases hok : okB r = true
    · rw [if_pos hok] at hl hE
      refine Ev.step (f := fun k => span_Union.l1 k (acc ++ [clipS r]) L n i row (row.length : Int) ((pre ++ [r]).length : Int)) (fun k => ?_) (ih (pre ++ [r]) hrow' (acc ++ [clipS r]) (by simp at hl ⊢; omega) (by rw [List.append_assoc]; exact hE))
      simp only [span_Union.l1]
      rw [if_pos hlt, if_pos (by omega), if_pos hlt, hget, clip_eq]
      simp only [Option.bind_some]
      rw [if_pos hok, if_pos (by simp at hl; omega), e1]
    · rw [if_neg hok] at hl hE
      refine Ev.step (f := fun k => span_Union.l1 k acc L n i row (row.length : Int) ((pre ++ [r]).length : Int)) (fun k => ?_) (ih (pre ++ [r]) hrow' acc (by simpa using hl) (by simpa using hE))
      simp only [span_Union.l1]
      rw [if_pos hlt, if_pos (by omega), if_pos hlt, hget, clip_eq]
      simp only [Option.bind_some]
      rw [if_neg hok, e1]

/-- The outer loop. -/
theorem union_l0 (L : List (List S28)) (R : List S28) (hL : L.length < 4611686018427387904) (hr : ∀ l ∈ L, l.length ≤ 8796093022208) (pre suf : List (List S28)) (hp : L = pre ++ suf) : ∀ (acc : List S28), acc.length + (clips suf.flatten).length ≤ 8796093022208 →
    Ev (fun k => (api_Run.f (acc ++ clips suf.flatten)).bind fun t => span_Union.l2 k [] t ((acc ++ clips suf.flatten).length : Int) 0) R → Ev (fun k => span_Union.l0 k acc L (L.length : Int) (pre.length : Int)) R := by
  induction suf generalizing pre with
  | nil =>
    intro acc _ hE
    refine Ev.step (f := fun k => (api_Run.f acc).bind fun t => span_Union.l2 k [] t (acc.length : Int) 0) (fun k => ?_) (by simpa [clips] using hE)
    simp only [span_Union.l0]
    rw [if_neg (by rw [hp]; simp)]
  | cons r t ih =>
    intro acc hl hE
    have e1 : wrap64 ((pre.length : Int) + 1) = ((pre ++ [r]).length : Int) := by rw [w64_nat _ (by rw [hp] at hL; simp at hL; omega)]; simp
    have hcl : clips (r :: t).flatten = clips r ++ clips t.flatten := by simp [clips]
    rw [hcl] at hl hE
    have hlt : (pre.length : Int) < (L.length : Int) := by rw [hp]; simp; omega
    have hget : rd_L2 L (pre.length : Int) = r := by rw [hp]; exact rdL pre t r
    have ih' := ih (pre ++ [r]) (by rw [hp]; simp) (acc ++ clips r) (by simp at hl ⊢; omega) (by rw [List.append_assoc]; exact hE)
    refine Ev.step (f := fun k => span_Union.l1 k acc L (L.length : Int) (pre.length : Int) r (r.length : Int) 0) (fun k => ?_) (union_l1 L (L.length : Int) (pre.length : Int) r R [] r rfl (hr r (by rw [hp]; simp)) acc (by simp at hl; omega) (by rw [e1]; exact ih'))
    simp only [span_Union.l0]
    rw [if_pos hlt, if_pos (by omega), if_pos hlt, hget]

theorem addS_len (o : List S28) (r : S28) : (addS o r).length ≤ o.length + 1 := by
  unfold addS
  split
  · simp
  · split <;> simp <;> omega
theorem addS_bd (o : List S28) (r : S28) (h : ∀ x ∈ o, 0 ≤ x.f1 ∧ x.f1 ≤ 1000000000) (hr : 0 ≤ r.f1 ∧ r.f1 ≤ 1000000000) : ∀ x ∈ addS o r, 0 ≤ x.f1 ∧ x.f1 ≤ 1000000000 := by
  rcases List.eq_nil_or_concat o with rfl | ⟨t, y, rfl⟩
  · intro x hx; simp [addS] at hx; subst hx; exact hr
  · rw [List.concat_eq_append] at *
    rw [addS_snoc]
    intro x hx
    split at hx
    · rw [List.mem_append, List.mem_singleton] at hx
      rcases hx with hx | rfl
      · exact h x (by simp [hx])
      · have := h y (by simp)
        simp only
        split
        · exact hr
        · exact this
    · rw [List.mem_append, List.mem_singleton] at hx
      rcases hx with hx | rfl
      · exact h x hx
      · exact hr
/-- The last loop: one by one. -/
theorem union_l2 (row : List S28) (hr : row.length ≤ 8796093022208) (hb : ∀ x ∈ row, 0 ≤ x.f1 ∧ x.f1 ≤ 1000000000) (pre suf : List S28) (hp : row = pre ++ suf) : ∀ (o : List S28), o.length ≤ pre.length → (∀ x ∈ o, 0 ≤ x.f1 ∧ x.f1 ≤ 1000000000) →
    Ev (fun k => span_Union.l2 k o row (row.length : Int) (pre.length : Int)) (suf.foldl addS o) := by
  induction suf generalizing pre with
  | nil =>
    intro o _ _
    refine Ev.step (f := fun _ => some o) (fun k => ?_) (Ev.now _)
    simp only [span_Union.l2]
    rw [if_neg (by rw [hp]; simp)]
  | cons r t ih =>
    intro o hl ho
    have e1 : wrap64 ((pre.length : Int) + 1) = ((pre ++ [r]).length : Int) := by rw [w64_nat _ (by rw [hp] at hr; simp at hr; omega)]; simp
    have hlt : (pre.length : Int) < (row.length : Int) := by rw [hp]; simp; omega
    have hget : rd_T28 row (pre.length : Int) = r := by rw [hp]; exact rdT pre t r
    have hbr := hb r (by rw [hp]; simp)
    have h2 := addS_len o r
    refine Ev.step (f := fun k => span_Union.l2 k (addS o r) row (row.length : Int) ((pre ++ [r]).length : Int)) (fun k => ?_) (ih (pre ++ [r]) (by rw [hp]; simp) (addS o r) (by simp; omega) (addS_bd o r ho hbr))
    simp only [span_Union.l2]
    rw [if_pos hlt, if_pos (by omega), if_pos hlt, hget, add_eq o r ho (by rw [hp] at hr; simp at hr; omega)]
    simp only [Option.bind_some]
    rw [e1]

theorem sort_perm (l : List S28) (h : okLo l) : ((sortR (toR l h)).toList.map (·.1)).Perm l ∧ ((sortR (toR l h)).toList.map (·.1)).Pairwise (fun a b => a.f0 ≤ b.f0) := by
  obtain ⟨⟨h1, _, h3⟩, h4⟩ := sortR_facts (toR l h)
  obtain ⟨D, hD⟩ : ∃ D, sortR (toR l h) = D := ⟨_, rfl⟩
  rw [hD] at h1 h3 h4 ⊢
  refine ⟨?_, ?_⟩
  · have h5 : D.extract 0 (toR l h).size = D := by rw [← h1]; simp
    have h6 : (toR l h).extract 0 (toR l h).size = toR l h := by simp
    rw [h5, h6] at h3
    have := h3.map (fun x : SRun => x.1)
    rwa [toR_val] at this
  · rw [List.pairwise_map, List.pairwise_iff_getElem]
    intro i j hi hj hij
    have hi' : i < D.size := by simpa using hi
    have hj' : j < D.size := by simpa using hj
    have := h4 i j (Nat.zero_le _) hij (by omega)
    have e := ltR_eq D[j]! D[i]!
    unfold ltR at e
    rw [e, decide_eq_false_iff_not, getElem!_pos D j hj', getElem!_pos D i hi'] at this
    simp only [Array.getElem_toList]
    omega
theorem clips_len (l : List S28) : (clips l).length ≤ l.length := by
  unfold clips
  rw [List.length_map]
  exact List.length_filter_le _ _
theorem union_ev (L : List (List S28)) (hL : L.length < 4611686018427387904) (hr : ∀ l ∈ L, l.length ≤ 8796093022208) (hc : (clips L.flatten).length ≤ 8796093022208) : Ev (fun k => span_Union.f k L) (canon L.flatten) := by
  unfold span_Union.f
  have hok : okLo (clips L.flatten) := fun x hx => by have := clips_good _ x hx; unfold Good at this; omega
  refine union_l0 L _ hL hr [] L rfl [] (by simpa using hc) ?_
  rw [List.nil_append]
  obtain ⟨C, hC⟩ : ∃ C, clips L.flatten = C := ⟨_, rfl⟩
  by_cases hz : C.length = 0
  · have : C = [] := List.eq_nil_of_length_eq_zero hz
    subst this
    have e : canon L.flatten = [] := by rw [← foldS_canon L.flatten [] (by rw [hC]) (by simp)]; rfl
    rw [hC, e]
    refine Ev.step (f := fun _ => some []) (fun k => ?_) (Ev.now _)
    rfl
  · rw [hC] at hc hok
    obtain ⟨h1, h2⟩ := sort_perm C hok
    have e : api_Run.f C = some ((sortR (toR C hok)).toList.map (·.1)) := by
      unfold api_Run.f
      rw [if_neg hz, dif_pos hok, if_pos (by omega)]
    have e2 := foldS_canon L.flatten _ (by rw [hC]; exact h1) h2
    rw [hC, e, ← e2]
    have hlen := h1.length_eq
    generalize hD : (sortR (toR C hok)).toList.map (·.1) = D at *
    have := union_l2 D (by omega) (fun x hx => by have := clips_good L.flatten x (by rw [hC]; exact h1.mem_iff.1 hx); unfold Good at this; omega) [] D rfl [] (by simp) (by simp)
    rw [← hlen]
    exact this
end Go.Proofs.Ytmlfbgkaondljaa.Pure
