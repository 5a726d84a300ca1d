/- What printed span functions answer: Meet, Minus. -/
import Derived.Test.YtmlfbgkaondljaaAl2
import Derived.Test.YtmlfbgkaondljaaGx9
namespace Go.Proofs.Ytmlfbgkaondljaa.Pure
open Go.RowKit Go.Proofs.Ytmlfbgkaondljaa.G Go.Proofs.YtmlfbgkaondljaaW.PrintWords Go.Proofs.YtmlfbgkaondljaaW.PrintLast Go.Proofs.YtmlfbgkaondljaaW.PrintMore
set_option linter.unusedVariables false

theorem meet_l0 (a b : List S28) (ha : Fit a) (hb : Fit b) (hab : a.length + b.length < 8796093022208) : ∀ (d : Nat) (pa sa pb sb o : List S28) (la lb m : Int), sa.length + sb.length ≤ d → a = pa ++ sa → b = pb ++ sb → o.length ≤ pa.length + pb.length →
    NormFrom la sa → NormFrom lb sb → -1 ≤ la → -1 ≤ lb → (m ≤ la ∨ m ≤ lb) → ∃ R, Ev (fun k => span_Meet.l0 k a b o (pa.length : Int) (pb.length : Int)) (o ++ R) ∧ NormFrom m R ∧ ∀ n, Mem R n ↔ Mem sa n ∧ Mem sb n := by
  intro d
  induction d with
  | zero =>
    intro pa sa pb sb o la lb m hd ea eb ho na nb hla hlb hm
    have : sa = [] := List.eq_nil_of_length_eq_zero (by omega)
    subst this
    refine ⟨[], ?_, trivial, fun n => by simp [mem_nil]⟩
    rw [List.append_nil]
    refine Ev.step (f := fun k => span_Meet.j1 k a b o (pa.length : Int) (pb.length : Int) false) (fun k => ?_) (Ev.step (f := fun _ => some o) (fun k => ?_) (Ev.now _))
    · simp only [span_Meet.l0]
      rw [if_neg (by rw [ea]; simp)]
    · simp only [span_Meet.j1]
      rfl
  | succ d ih =>
    intro pa sa pb sb o la lb m hd ea eb ho na nb hla hlb hm
    cases sa with
    | nil =>
      refine ⟨[], ?_, trivial, fun n => by simp [mem_nil]⟩
      rw [List.append_nil]
      refine Ev.step (f := fun k => span_Meet.j1 k a b o (pa.length : Int) (pb.length : Int) false) (fun k => ?_) (Ev.step (f := fun _ => some o) (fun k => ?_) (Ev.now _))
      · simp only [span_Meet.l0]
        rw [if_neg (by rw [ea]; simp)]
      · simp only [span_Meet.j1]
        rfl
    | cons r s =>
      have hlt : (pa.length : Int) < (a.length : Int) := by rw [ea]; simp; omega
      cases sb with
      | nil =>
        refine ⟨[], ?_, trivial, fun n => by simp [mem_nil]⟩
        rw [List.append_nil]
        refine Ev.step (f := fun k => span_Meet.j1 k a b o (pa.length : Int) (pb.length : Int) false) (fun k => ?_) (Ev.step (f := fun _ => some o) (fun k => ?_) (Ev.now _))
        · simp only [span_Meet.l0]
          rw [if_pos hlt, decide_eq_false (by rw [eb]; simp)]
        · simp only [span_Meet.j1]
          rfl
      | cons q t =>
        have hlt2 : (pb.length : Int) < (b.length : Int) := by rw [eb]; simp; omega
        have hg1 : rd_T28 a (pa.length : Int) = r := by rw [ea]; exact rdT pa s r
        have hg2 : rd_T28 b (pb.length : Int) = q := by rw [eb]; exact rdT pb t q
        have e1 : wrap64 ((pa.length : Int) + 1) = ((pa ++ [r]).length : Int) := by unfold Fit at ha; rw [w64_nat _ (by rw [ea] at ha; simp at ha; omega)]; simp
        have e2 : wrap64 ((pb.length : Int) + 1) = ((pb ++ [q]).length : Int) := by unfold Fit at hb; rw [w64_nat _ (by rw [eb] at hb; simp at hb; omega)]; simp
        have hol : o.length < 8796093022208 := by rw [ea, eb] at hab; simp at hab; omega
        have na' := na; have nb' := nb
        obtain ⟨a1, a2, a3, a4⟩ := na
        obtain ⟨b1, b2, b3, b4⟩ := nb
        simp only [List.length_cons] at hd
        have hstep : ∀ (R : List S28), Ev (fun k => span_Meet.j1 k a b o (pa.length : Int) (pb.length : Int) true) R → Ev (fun k => span_Meet.l0 k a b o (pa.length : Int) (pb.length : Int)) R := by
          intro R hR
          refine Ev.step (fun k => ?_) hR
          simp only [span_Meet.l0]
          rw [if_pos hlt, decide_eq_true hlt2]
        have ex : mx r.f0 q.f0 = if r.f0 < q.f0 then q.f0 else r.f0 := rfl
        have en : mn r.f1 q.f1 = if q.f1 < r.f1 then q.f1 else r.f1 := rfl
        by_cases hc : mx r.f0 q.f0 ≤ mn r.f1 q.f1
        · by_cases hd2 : r.f1 < q.f1
          · obtain ⟨R, hR, hN, hM⟩ := ih (pa ++ [r]) s pb (q :: t) (o ++ [⟨mx r.f0 q.f0, mn r.f1 q.f1⟩]) r.f1 lb r.f1 (by simp; omega) (by rw [ea]; simp) eb (by simp; omega) a4 nb' (by omega) hlb (.inl (Int.le_refl _))
            refine ⟨⟨mx r.f0 q.f0, mn r.f1 q.f1⟩ :: R, hstep _ (Ev.step (fun k => ?_) (by rw [List.append_assoc] at hR; exact hR)), ?_, fun n => ?_⟩
            · simp only [span_Meet.j1]
              rw [if_pos trivial, if_pos (by omega), if_pos hlt, if_pos (by omega), if_pos hlt2, hg1, hg2, if_pos hc, if_pos hol]
              simp only [Option.bind_some]
              rw [if_pos hd2, e1]
            · have : mn r.f1 q.f1 = r.f1 := by rw [en]; split <;> omega
              refine ⟨?_, hc, by simp only; omega, by simp only [this]; exact hN⟩
              simp only; rw [ex]; split <;> omega
            · rw [mem_cons, hM, mem_cons r s, mem_cons q t]
              have : mn r.f1 q.f1 = r.f1 := by rw [en]; split <;> omega
              simp only [this, ex]
              constructor
              · rintro (⟨h1, h2, h3, h4⟩ | ⟨h1, h2⟩)
                · split at h3 <;> exact ⟨.inl ⟨h1, h2, by omega, by omega⟩, .inl ⟨h1, h2, by omega, by omega⟩⟩
                · exact ⟨.inr h1, h2⟩
              · rintro ⟨⟨h1, h2, h3, h4⟩ | h1, h9⟩
                · rcases h9 with ⟨_, _, h5, h6⟩ | h5
                  · refine .inl ⟨h1, h2, ?_, h4⟩
                    split <;> omega
                  · have := b4.low h5; omega
                · exact .inr ⟨h1, h9⟩
          · obtain ⟨R, hR, hN, hM⟩ := ih pa (r :: s) (pb ++ [q]) t (o ++ [⟨mx r.f0 q.f0, mn r.f1 q.f1⟩]) la q.f1 q.f1 (by simp; omega) ea (by rw [eb]; simp) (by simp; omega) na' b4 hla (by omega) (.inr (Int.le_refl _))
            refine ⟨⟨mx r.f0 q.f0, mn r.f1 q.f1⟩ :: R, hstep _ (Ev.step (fun k => ?_) (by rw [List.append_assoc] at hR; exact hR)), ?_, fun n => ?_⟩
            · simp only [span_Meet.j1]
              rw [if_pos trivial, if_pos (by omega), if_pos hlt, if_pos (by omega), if_pos hlt2, hg1, hg2, if_pos hc, if_pos hol]
              simp only [Option.bind_some]
              rw [if_neg hd2, e2]
            · have : mn r.f1 q.f1 = q.f1 := by rw [en]; split <;> omega
              refine ⟨?_, hc, by simp only; omega, by simp only [this]; exact hN⟩
              simp only; rw [ex]; split <;> omega
            · rw [mem_cons, hM, mem_cons r s, mem_cons q t]
              have : mn r.f1 q.f1 = q.f1 := by rw [en]; split <;> omega
              simp only [this, ex]
              constructor
              · rintro (⟨h1, h2, h3, h4⟩ | ⟨h1, h2⟩)
                · split at h3 <;> exact ⟨.inl ⟨h1, h2, by omega, by omega⟩, .inl ⟨h1, h2, by omega, by omega⟩⟩
                · exact ⟨h1, .inr h2⟩
              · rintro ⟨h9, ⟨h2, h3, h4, h5⟩ | h2⟩
                · rcases h9 with ⟨_, _, h6, h7⟩ | h6
                  · refine .inl ⟨h2, h3, ?_, h5⟩
                    split <;> omega
                  · have := a4.low h6; omega
                · exact .inr ⟨h9, h2⟩
        · have hne : ¬ (r.f0 ≤ q.f1 ∧ q.f0 ≤ r.f1) := by rw [ex, en] at hc; split at hc <;> split at hc <;> omega
          by_cases hd2 : r.f1 < q.f1
          · obtain ⟨R, hR, hN, hM⟩ := ih (pa ++ [r]) s pb (q :: t) o r.f1 lb m (by simp; omega) (by rw [ea]; simp) eb (by simp; omega) a4 nb' (by omega) hlb (by omega)
            refine ⟨R, hstep _ (Ev.step (fun k => ?_) hR), hN, fun n => ?_⟩
            · simp only [span_Meet.j1]
              rw [if_pos trivial, if_pos (by omega), if_pos hlt, if_pos (by omega), if_pos hlt2, hg1, hg2, if_neg hc, if_pos hd2, e1]
            · rw [hM, mem_cons r s, mem_cons q t]
              constructor
              · rintro ⟨h1, h2⟩; exact ⟨.inr h1, h2⟩
              · rintro ⟨⟨h1, h2, h3, h4⟩ | h1, h9⟩
                · rcases h9 with ⟨_, _, h5, h6⟩ | h5
                  · omega
                  · have := b4.low h5; omega
                · exact ⟨h1, h9⟩
          · obtain ⟨R, hR, hN, hM⟩ := ih pa (r :: s) (pb ++ [q]) t o la q.f1 m (by simp; omega) ea (by rw [eb]; simp) (by simp; omega) na' b4 hla (by omega) (by omega)
            refine ⟨R, hstep _ (Ev.step (fun k => ?_) hR), hN, fun n => ?_⟩
            · simp only [span_Meet.j1]
              rw [if_pos trivial, if_pos (by omega), if_pos hlt, if_pos (by omega), if_pos hlt2, hg1, hg2, if_neg hc, if_neg hd2, e2]
            · rw [hM, mem_cons r s, mem_cons q t]
              constructor
              · rintro ⟨h1, h2⟩; exact ⟨h1, .inr h2⟩
              · rintro ⟨h9, ⟨h2, h3, h4, h5⟩ | h2⟩
                · rcases h9 with ⟨_, _, h6, h7⟩ | h6
                  · omega
                  · have := a4.low h6; omega
                · exact ⟨h9, h2⟩

theorem meet_ev (a b : List S28) (ha : Fit a) (hb : Fit b) : ∃ R, Ev (fun k => span_Meet.f k a b) R ∧ Rep R (fun n => Mem a n ∧ Mem b n) := by
  have na := canon_norm' a; have nb := canon_norm' b
  have l1 := na.len; have l2 := nb.len
  obtain ⟨R, hR, hN, hM⟩ := meet_l0 (canon a) (canon b) na.fit nb.fit (by omega) _ [] (canon a) [] (canon b) [] (-1) (-1) (-1) (Nat.le_refl _) rfl rfl (by simp) na nb (by omega) (by omega) (by omega)
  refine ⟨R, ?_, hN, fun n => by rw [hM, canon_mem, canon_mem]⟩
  unfold span_Meet.f
  refine Ev.bind (norm_ev a ha) (Ev.bind (norm_ev b hb) ?_)
  simpa using hR

theorem others_l0 (row : List S28) (hr : row.length < 8796093022208) (pre suf : List S28) (hp : row = pre ++ suf) : ∀ (o : List S28) (lo : Int), o.length ≤ pre.length → NormFrom (lo - 2) suf → 1 ≤ lo → lo ≤ 1000000001 →
    ∃ R, Ev (fun k => span_others.l0 k o lo row (row.length : Int) (pre.length : Int)) (o ++ R) ∧ NormFrom (lo - 2) R ∧ ∀ n, Mem R n ↔ lo ≤ n ∧ n ≤ 1000000000 ∧ ¬ Mem suf n := by
  induction suf generalizing pre with
  | nil =>
    intro o lo ho _ h1 h2
    by_cases hc : lo ≤ 1000000000
    · refine ⟨[⟨lo, 1000000000⟩], Ev.step (f := fun _ => some (o ++ [⟨lo, 1000000000⟩])) (fun k => ?_) (Ev.now _), ⟨by simp only; omega, hc, by simp, trivial⟩, fun n => ?_⟩
      · simp only [span_others.l0]
        rw [if_neg (by rw [hp]; simp), if_pos hc, if_pos (by rw [hp] at hr; simp at hr; omega)]
      · rw [mem_cons]; simp [mem_nil]; omega
    · refine ⟨[], Ev.step (f := fun _ => some (o ++ [])) (fun k => ?_) (Ev.now _), trivial, fun n => ?_⟩
      · simp only [span_others.l0]
        rw [if_neg (by rw [hp]; simp), if_neg hc, List.append_nil]
      · simp [mem_nil]; omega
  | cons r t ih =>
    intro o lo ho hn h1 h2
    obtain ⟨n1, n2, n3, n4⟩ := hn
    have e1 : wrap64 ((pre.length : Int) + 1) = ((pre ++ [r]).length : Int) := by rw [w64_nat _ (by rw [hp] at hr; simp at hr; omega)]; simp
    have hlt : (pre.length : Int) < (row.length : Int) := by rw [hp]; simp; omega
    have hget : rd_T28 row (pre.length : Int) = r := by rw [hp]; exact rdT pre t r
    have hlow : ∀ n, Mem t n → r.f1 + 2 ≤ n := fun n h => n4.low h
    by_cases hc : lo < r.f0
    · obtain ⟨R, hR, hN, hM⟩ := ih (pre ++ [r]) (by rw [hp]; simp) (o ++ [⟨lo, r.f0 - 1⟩]) (r.f1 + 1) (by simp; omega) (n4.mono (by omega)) (by omega) (by omega)
      refine ⟨⟨lo, r.f0 - 1⟩ :: R, Ev.step (fun k => ?_) (by rw [List.append_assoc] at hR; exact hR), ⟨by simp only; omega, by simp only; omega, by simp only; omega, hN.mono (by simp only; omega)⟩, fun n => ?_⟩
      · simp only [span_others.l0]
        rw [if_pos hlt, if_pos (by omega), if_pos hlt, hget, if_pos hc, if_pos (by rw [hp] at hr; simp at hr; omega), w64 (x := r.f0 - 1) (by omega) (by omega), w64 (x := r.f1 + 1) (by omega) (by omega), e1]
      · rw [mem_cons, hM, mem_cons]
        have := hlow n
        constructor
        · rintro (⟨a, b, c, d⟩ | ⟨a, b, c⟩)
          · refine ⟨c, b, ?_⟩
            rintro (⟨_, _, e, _⟩ | e)
            · simp only at d; omega
            · simp only at d; have := hlow n e; omega
          · refine ⟨by omega, b, ?_⟩
            rintro (⟨_, _, e, f⟩ | e)
            · omega
            · exact c e
        · rintro ⟨a, b, c⟩
          rcases Int.lt_or_le n r.f0 with h5 | h5
          · exact .inl ⟨by omega, b, a, by simp only; omega⟩
          · refine .inr ⟨?_, b, fun e => c (.inr e)⟩
            rcases Int.lt_or_le r.f1 n with h6 | h6
            · omega
            · exact absurd (.inl ⟨by omega, b, h5, h6⟩) c
    · obtain ⟨R, hR, hN, hM⟩ := ih (pre ++ [r]) (by rw [hp]; simp) o (r.f1 + 1) (by simp; omega) (n4.mono (by omega)) (by omega) (by omega)
      refine ⟨R, Ev.step (fun k => ?_) hR, hN.mono (by omega), fun n => ?_⟩
      · simp only [span_others.l0]
        rw [if_pos hlt, if_pos (by omega), if_pos hlt, hget, if_neg hc, w64 (x := r.f1 + 1) (by omega) (by omega), e1]
      · rw [hM, mem_cons]
        constructor
        · rintro ⟨a, b, c⟩
          refine ⟨by omega, b, ?_⟩
          rintro (⟨_, _, e, f⟩ | e)
          · omega
          · exact c e
        · rintro ⟨a, b, c⟩
          refine ⟨?_, b, fun e => c (.inr e)⟩
          rcases Int.lt_or_le r.f1 n with h6 | h6
          · omega
          · exact absurd (.inl ⟨by omega, b, by omega, h6⟩) c
theorem minus_ev (a b : List S28) (ha : Fit a) (hb : Fit b) : ∃ R, Ev (fun k => span_Minus.f k a b) R ∧ Rep R (fun n => Mem a n ∧ ¬ Mem b n) := by
  have nb := canon_norm' b
  have l2 := nb.len
  obtain ⟨O, hO, hN, hM⟩ := others_l0 (canon b) (by omega) [] (canon b) rfl [] 1 (by simp) nb (by omega) (by omega)
  have hON : Norm O := hN
  obtain ⟨R, hR, hRep⟩ := meet_ev a O ha hON.fit
  refine ⟨R, ?_, hRep.of (fun n => ?_)⟩
  · unfold span_Minus.f span_others.f
    refine Ev.bind (norm_ev b hb) (Ev.bind ?_ (Ev.bind hR (Ev.now _)))
    simpa using hO
  · rw [hM, canon_mem]
    constructor
    · rintro ⟨h1, _, _, h2⟩; exact ⟨h1, h2⟩
    · rintro ⟨h1, h2⟩; exact ⟨h1, h1.1, h1.2.1, h2⟩
end Go.Proofs.Ytmlfbgkaondljaa.Pure
