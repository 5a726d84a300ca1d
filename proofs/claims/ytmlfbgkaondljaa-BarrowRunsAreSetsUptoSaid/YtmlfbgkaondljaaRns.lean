/- What the law asks of three lists of runs: all answers, known ahead. -/
import Derived.Test.YtmlfbgkaondljaaAlW
import Derived.Test.YtmlfbgkaondljaaAlI
import Derived.Test.YtmlfbgkaondljaaGx2
namespace Go.Proofs.Ytmlfbgkaondljaa.Pure
open Go.RowKit Go.Proofs.Ytmlfbgkaondljaa.G Go.Proofs.YtmlfbgkaondljaaW.PrintWords Go.Proofs.YtmlfbgkaondljaaW.PrintLast Go.Proofs.YtmlfbgkaondljaaW.PrintMore
set_option linter.unusedVariables false
theorem same_l0 (l : List S28) (hl : l.length < 4611686018427387904) : ∀ (d i : Nat), i + d = l.length → Ev (fun k => barrowtop_sameRuns.l0 k l l (l.length : Int) (i : Int)) true
  | 0, i, hd => by
    refine Ev.step (f := fun _ => some true) (fun k => ?_) (Ev.now _)
    simp only [barrowtop_sameRuns.l0]
    rw [if_neg (by omega)]
  | d + 1, i, hd => by
    refine Ev.step (fun k => ?_) (same_l0 l hl d (i + 1) (by omega))
    simp only [barrowtop_sameRuns.l0]
    rw [if_pos (by omega), if_pos (by omega), if_pos (by omega), if_pos (by omega), if_neg (by simp), w64_nat i (by omega)]
theorem same_ev (l : List S28) (hl : l.length < 4611686018427387904) : Ev (fun k => barrowtop_sameRuns.f k l l) true := by
  unfold barrowtop_sameRuns.f
  exact Ev.congr (fun k => if_pos rfl) (same_l0 l hl l.length 0 (by omega))
theorem union_fit (L : List (List S28)) (hL : L.length ≤ 4) (hr : ∀ l ∈ L, l.length ≤ 1073741824) : Ev (fun k => span_Union.f k L) (canon L.flatten) := by
  have h1 : ∀ L : List (List S28), (∀ l ∈ L, l.length ≤ 1073741824) → L.flatten.length ≤ L.length * 1073741824 := by
    intro L
    induction L with
    | nil => intro _; simp
    | cons x t ih =>
      intro h
      have h2 := ih (fun l hl => h l (by simp [hl]))
      have h3 := h x (by simp)
      simp only [List.flatten_cons, List.length_append, List.length_cons]
      omega
  have h2 := h1 L hr
  have h3 := clips_len L.flatten
  refine union_ev L (by omega) (fun l hl => ?_) (by omega)
  have := hr l hl
  omega
theorem union_two (a b r : List S28) {P : Int → Prop} (ha : a.length ≤ 1073741824) (hb : b.length ≤ 1073741824) (h : Rep r P) (e : ∀ n, (Mem a n ∨ Mem b n) ↔ P n) : Ev (fun k => span_Union.f k [a, b]) r := by
  have h1 := union_fit [a, b] (by simp) (by intro l hl; simp at hl; rcases hl with rfl | rfl <;> assumption)
  have h2 : canon [a, b].flatten = r := canon_of h _ (fun n => by simp only [List.flatten_cons, List.flatten_nil, List.append_nil]; rw [mem_append]; exact e n)
  rw [h2] at h1
  exact h1
theorem isNorm_true {l : List S28} (h : Norm l) : Ev (fun k => span_IsNorm.f k l) true := by
  have h1 := isNorm_ev l h.fit
  rw [(normB_iff l (-1)).2 h] at h1
  exact h1
theorem Norm.len' {l : List S28} (h : Norm l) : l.length ≤ 1073741824 := by have := h.len; omega
/-- All answers. -/
structure RF (a b c u m d t1 t2 mac t3 mbc t4 ubc uac na nb nc : List S28) (p q : Bool) (n : Int) (sa sb su sm sd : Int) : Prop where
  eNa : Ev (fun k => span_Norm.f k a) na
  eNb : Ev (fun k => span_Norm.f k b) nb
  eNc : Ev (fun k => span_Norm.f k c) nc
  eU : Ev (fun k => span_Union.f k [a, b]) u
  eM : Ev (fun k => span_Meet.f k a b) m
  eD : Ev (fun k => span_Minus.f k a b) d
  iA : Ev (fun k => span_IsNorm.f k na) true
  iU : Ev (fun k => span_IsNorm.f k u) true
  iM : Ev (fun k => span_IsNorm.f k m) true
  iD : Ev (fun k => span_IsNorm.f k d) true
  eNu : Ev (fun k => span_Norm.f k u) u
  sU : Ev (fun k => barrowtop_sameRuns.f k u u) true
  hA : span_Has.f a n = some p
  hB : span_Has.f b n = some q
  hNa : span_Has.f na n = some p
  hU : span_Has.f u n = some (p || q)
  hM : span_Has.f m n = some (p && q)
  hD : span_Has.f d n = some (p && !q)
  eUba : Ev (fun k => span_Union.f k [b, a]) u
  eMba : Ev (fun k => span_Meet.f k b a) m
  sM : Ev (fun k => barrowtop_sameRuns.f k m m) true
  eUdm : Ev (fun k => span_Union.f k [d, m]) na
  sA : Ev (fun k => barrowtop_sameRuns.f k na na) true
  eMdb : Ev (fun k => span_Meet.f k d b) []
  eUbc : Ev (fun k => span_Union.f k [b, c]) ubc
  eT1 : Ev (fun k => span_Minus.f k a ubc) t1
  eT1' : Ev (fun k => span_Minus.f k d c) t1
  sT1 : Ev (fun k => barrowtop_sameRuns.f k t1 t1) true
  eT2 : Ev (fun k => span_Meet.f k a ubc) t2
  eMac : Ev (fun k => span_Meet.f k a c) mac
  eT2' : Ev (fun k => span_Union.f k [m, mac]) t2
  sT2 : Ev (fun k => barrowtop_sameRuns.f k t2 t2) true
  eT3 : Ev (fun k => span_Union.f k [a, b, c]) t3
  eT3' : Ev (fun k => span_Union.f k [u, nc]) t3
  sT3 : Ev (fun k => barrowtop_sameRuns.f k t3 t3) true
  eMbc : Ev (fun k => span_Meet.f k b c) mbc
  eT4 : Ev (fun k => span_Union.f k [a, mbc]) t4
  eUac : Ev (fun k => span_Union.f k [a, c]) uac
  eT4' : Ev (fun k => span_Meet.f k u uac) t4
  sT4 : Ev (fun k => barrowtop_sameRuns.f k t4 t4) true
  zU : Ev (fun k => span_Size.f k u) su
  zM : Ev (fun k => span_Size.f k m) sm
  zNa : Ev (fun k => span_Size.f k na) sa
  zNb : Ev (fun k => span_Size.f k nb) sb
  zD : Ev (fun k => span_Size.f k d) sd
  zA : Ev (fun k => span_Size.f k a) sa
  z1 : su + sm = sa + sb
  z2 : sd + sm = sa
  z3 : (0 ≤ sa ∧ sa ≤ 1000000000) ∧ (0 ≤ sb ∧ sb ≤ 1000000000) ∧ (0 ≤ su ∧ su ≤ 1000000000) ∧ (0 ≤ sm ∧ sm ≤ 1000000000) ∧ 0 ≤ sd ∧ sd ≤ 1000000000
  wMA : Ev (fun k => span_Within.f k m a) true
  wAU : Ev (fun k => span_Within.f k a u) true
  wAB : Ev (fun k => span_Within.f k a b) ((d.length : Int) == 0)
theorem runs_facts (a b c : List S28) (n : Int) (ha : a.length ≤ 1073741824) (hb : b.length ≤ 1073741824) (hc : c.length ≤ 1073741824) : ∃ u m d t1 t2 mac t3 mbc t4 ubc uac na nb nc p q sa sb su sm sd, RF a b c u m d t1 t2 mac t3 mbc t4 ubc uac na nb nc p q n sa sb su sm sd := by
  have fa : Fit a := by unfold Fit; omega
  have fb : Fit b := by unfold Fit; omega
  have fc : Fit c := by unfold Fit; omega
  have rU : Rep (canon (a ++ b)) (fun n => Mem a n ∨ Mem b n) := (canon_rep _).of (fun n => mem_append a b n)
  have rUbc : Rep (canon (b ++ c)) (fun n => Mem b n ∨ Mem c n) := (canon_rep _).of (fun n => mem_append b c n)
  have rUac : Rep (canon (a ++ c)) (fun n => Mem a n ∨ Mem c n) := (canon_rep _).of (fun n => mem_append a c n)
  have rA := canon_rep a
  have rB := canon_rep b
  have rC := canon_rep c
  obtain ⟨m, eM, rM⟩ := meet_ev a b fa fb
  obtain ⟨d, eD, rD⟩ := minus_ev a b fa fb
  obtain ⟨m', eM', rM'⟩ := meet_ev b a fb fa
  obtain rfl : m = m' := Rep.unique rM (rM'.of (fun n => And.comm))
  obtain ⟨ze, eZ, rZ⟩ := meet_ev d b rD.1.fit fb
  obtain rfl : ze = [] := norm_nil rZ.1 (fun n hn => by have h := (rZ.2 n).1 hn; exact ((rD.2 n).1 h.1).2 h.2)
  obtain ⟨t1, eT1, rT1⟩ := minus_ev a (canon (b ++ c)) fa rUbc.1.fit
  obtain ⟨t1', eT1', rT1'⟩ := minus_ev d c rD.1.fit fc
  obtain rfl : t1 = t1' := Rep.unique rT1 (rT1'.of (fun n => by rw [rD.2 n, rUbc.2 n, not_or, and_assoc]))
  obtain ⟨t2, eT2, rT2⟩ := meet_ev a (canon (b ++ c)) fa rUbc.1.fit
  obtain ⟨mac, eMac, rMac⟩ := meet_ev a c fa fc
  obtain ⟨mbc, eMbc, rMbc⟩ := meet_ev b c fb fc
  obtain ⟨t4, eT4', rT4⟩ := meet_ev (canon (a ++ b)) (canon (a ++ c)) rU.1.fit rUac.1.fit
  have zA := size_ev a fa
  have zNa := size_ev (canon a) rA.1.fit
  have zNb := size_ev (canon b) rB.1.fit
  have zU := size_ev (canon (a ++ b)) rU.1.fit
  have zM := size_ev m rM.1.fit
  have zD := size_ev d rD.1.fit
  rw [canon_norm rA.1] at zNa
  rw [canon_norm rB.1] at zNb
  rw [canon_norm rU.1] at zU
  rw [canon_norm rM.1] at zM
  rw [canon_norm rD.1] at zD
  have bU : ∀ n, memB (canon (a ++ b)) n = (memB a n || memB b n) := fun n => by
    rw [Bool.eq_iff_iff, Bool.or_eq_true, memB_iff, memB_iff, memB_iff]; exact rU.2 n
  have bM : ∀ n, memB m n = (memB a n && memB b n) := fun n => by
    rw [Bool.eq_iff_iff, Bool.and_eq_true, memB_iff, memB_iff, memB_iff]; exact rM.2 n
  have bD : ∀ n, memB d n = (memB a n && !memB b n) := fun n => by
    rw [Bool.eq_iff_iff, Bool.and_eq_true, Bool.not_eq_true', ← Bool.not_eq_true, memB_iff, memB_iff, memB_iff]; exact rD.2 n
  have cA : sizeL (canon a) = card (memB a) 1000000000 := (sizeL_card rA.1).trans (card_congr (canon_memB a) _)
  have cB : sizeL (canon b) = card (memB b) 1000000000 := (sizeL_card rB.1).trans (card_congr (canon_memB b) _)
  have cU : sizeL (canon (a ++ b)) = card (fun x => memB a x || memB b x) 1000000000 := (sizeL_card rU.1).trans (card_congr bU _)
  have cM : sizeL m = card (fun x => memB a x && memB b x) 1000000000 := (sizeL_card rM.1).trans (card_congr bM _)
  have cD : sizeL d = card (fun x => memB a x && !memB b x) 1000000000 := (sizeL_card rD.1).trans (card_congr bD _)
  obtain ⟨pw1, ew1, hw1⟩ := within_ev m a rM.1.fit fa
  obtain rfl : pw1 = true := hw1.2 (fun n hn => ((rM.2 n).1 hn).1)
  obtain ⟨pw2, ew2, hw2⟩ := within_ev a (canon (a ++ b)) fa rU.1.fit
  obtain rfl : pw2 = true := hw2.2 (fun n hn => (rU.2 n).2 (.inl hn))
  refine ⟨canon (a ++ b), m, d, t1, t2, mac, canon (a ++ (b ++ c)), mbc, t4, canon (b ++ c), canon (a ++ c), canon a, canon b, canon c, memB a n, memB b n, sizeL (canon a), sizeL (canon b), sizeL (canon (a ++ b)), sizeL m, sizeL d, ?_⟩
  have rT3 : Rep (canon (a ++ (b ++ c))) (fun n => Mem a n ∨ Mem b n ∨ Mem c n) := (canon_rep _).of (fun n => by rw [mem_append, mem_append])
  exact {
    eNa := norm_ev a fa
    eNb := norm_ev b fb
    eNc := norm_ev c fc
    eU := union_two a b _ ha hb rU (fun n => Iff.rfl)
    eM := eM
    eD := eD
    iA := isNorm_true rA.1
    iU := isNorm_true rU.1
    iM := isNorm_true rM.1
    iD := isNorm_true rD.1
    eNu := by have := norm_ev _ rU.1.fit; rw [canon_norm rU.1] at this; exact this
    sU := same_ev _ (by have := rU.1.len; omega)
    hA := has_eq a n
    hB := has_eq b n
    hNa := by rw [has_eq, canon_memB]
    hU := by rw [has_eq, bU]
    hM := by rw [has_eq, bM]
    hD := by rw [has_eq, bD]
    eUba := union_two b a _ hb ha rU (fun n => Or.comm)
    eMba := eM'
    sM := same_ev _ (by have := rM.1.len; omega)
    eUdm := union_two d m _ rD.1.len' rM.1.len' rA (fun n => by
      rw [rD.2 n, rM.2 n]
      constructor
      · rintro (h | h) <;> exact h.1
      · intro h
        by_cases hb2 : Mem b n
        · exact .inr ⟨h, hb2⟩
        · exact .inl ⟨h, hb2⟩)
    sA := same_ev _ (by have := rA.1.len; omega)
    eMdb := eZ
    eUbc := union_two b c _ hb hc rUbc (fun n => Iff.rfl)
    eT1 := eT1
    eT1' := eT1'
    sT1 := same_ev _ (by have := rT1.1.len; omega)
    eT2 := eT2
    eMac := eMac
    eT2' := union_two m mac _ rM.1.len' rMac.1.len' rT2 (fun n => by rw [rM.2 n, rMac.2 n, rUbc.2 n, and_or_left])
    sT2 := same_ev _ (by have := rT2.1.len; omega)
    eT3 := by
      have h1 := union_fit [a, b, c] (by simp) (by intro l hl; simp at hl; rcases hl with rfl | rfl | rfl <;> assumption)
      simpa using h1
    eT3' := union_two _ _ _ rU.1.len' rC.1.len' rT3 (fun n => by rw [rU.2 n, canon_mem, or_assoc])
    sT3 := same_ev _ (by have := rT3.1.len; omega)
    eMbc := eMbc
    eT4 := union_two a mbc _ ha rMbc.1.len' rT4 (fun n => by rw [rMbc.2 n, rU.2 n, rUac.2 n, or_and_left])
    eUac := union_two a c _ ha hc rUac (fun n => Iff.rfl)
    eT4' := eT4'
    sT4 := same_ev _ (by have := rT4.1.len; omega)
    zU := zU
    zM := zM
    zNa := zNa
    zNb := zNb
    zD := zD
    zA := zA
    z1 := by rw [cU, cM, cA, cB]; exact card_or _ _ _
    z2 := by rw [cD, cM, cA]; exact card_minus _ _ _
    z3 := ⟨⟨sizeL_nonneg rA.1, sizeL_le rA.1⟩, ⟨sizeL_nonneg rB.1, sizeL_le rB.1⟩, ⟨sizeL_nonneg rU.1, sizeL_le rU.1⟩, ⟨sizeL_nonneg rM.1, sizeL_le rM.1⟩, sizeL_nonneg rD.1, sizeL_le rD.1⟩
    wMA := ew1
    wAU := ew2
    wAB := by
      unfold span_Within.f
      exact Ev.bind eD (Ev.now _) }
/-- The first question. -/
theorem first_union : Ev (fun k => span_Union.f k [[⟨4, 6⟩], [⟨9, 9⟩, ⟨1, 3⟩]]) [⟨1, 6⟩, ⟨9, 9⟩] := by
  refine union_two [⟨4, 6⟩] [⟨9, 9⟩, ⟨1, 3⟩] [⟨1, 6⟩, ⟨9, 9⟩] (by simp) (by simp) (Rep.self (by simp [Norm, NormFrom])) (fun n => ?_)
  simp only [mem_cons, mem_nil, or_false]
  omega
theorem first_same : Ev (fun k => barrowtop_sameRuns.f k [⟨1, 6⟩, ⟨9, 9⟩] [⟨1, 6⟩, ⟨9, 9⟩]) true := same_ev _ (by simp)
end Go.Proofs.Ytmlfbgkaondljaa.Pure
