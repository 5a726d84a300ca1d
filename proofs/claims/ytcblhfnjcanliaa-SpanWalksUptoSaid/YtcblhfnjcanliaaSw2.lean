/- The reference's sweep: the set where enough of the lists hold a number. -/
import Derived.Test.YtcblhfnjcanliaaSw1
import Derived.Test.YtcblhfnjcanliaaGx3
namespace Go.Proofs.Ytcblhfnjcanliaa.Pure
open Go.RowKit Go.Proofs.Ytcblhfnjcanliaa.G Go.Proofs.YtcblhfnjcanliaaW.PrintWords Go.Proofs.YtcblhfnjcanliaaW.PrintLast Go.Proofs.YtcblhfnjcanliaaW.PrintMore
set_option linter.unusedVariables false

def tot (w : Int) : List S40 → Int
  | [] => 0
  | m :: t => (if m.f1 = w then m.f2 else 0) + tot w t
theorem tot_append (w : Int) (a b : List S40) : tot w (a ++ b) = tot w a + tot w b := by
  induction a with
  | nil => simp [tot]
  | cons x t ih => simp only [List.cons_append, tot, ih]; omega
theorem tot_perm (w : Int) {a b : List S40} (h : a.Perm b) : tot w a = tot w b := by
  induction h with
  | nil => rfl
  | cons x _ ih => simp only [tot, ih]
  | swap x y l => simp only [tot]; omega
  | trans _ _ i1 i2 => exact i1.trans i2
def Fair (m : Nat) (x : S40) : Prop := 0 ≤ x.f1 ∧ x.f1 < m ∧ (x.f2 = 1 ∨ x.f2 = -1) ∧ 1 ≤ x.f0 ∧ x.f0 ≤ 1000000001
theorem tot_bound {m : Nat} (w : Int) {l : List S40} (h : ∀ x ∈ l, Fair m x) : -(l.length : Int) ≤ tot w l ∧ tot w l ≤ (l.length : Int) := by
  induction l with
  | nil => simp [tot]
  | cons x t ih =>
    have := ih (fun y hy => h y (by simp [hy]))
    have hx := (h x (by simp)).2.2.1
    simp only [tot, List.length_cons]
    split <;> omega
def held (m : Nat) (l : List S40) : List Int := (List.range m).map (fun w : Nat => tot (w : Int) l)
theorem held_len (m : Nat) (l : List S40) : (held m l).length = m := by simp [held]
theorem rdHeld (m : Nat) (l : List S40) (w : Nat) (h : w < m) : rd (held m l) (w : Int) = tot (w : Int) l := by
  unfold rd held
  rw [Int.toNat_natCast, List.getD_eq_getElem?_getD, List.getElem?_map, List.getElem?_range h]
  rfl
def posN (h : List Int) : Int := h.foldr (fun x n => (if x > 0 then 1 else 0) + n) 0
theorem posN_cons (x : Int) (t : List Int) : posN (x :: t) = (if x > 0 then 1 else 0) + posN t := rfl
theorem posN_bound (h : List Int) : 0 ≤ posN h ∧ posN h ≤ h.length := by
  induction h with
  | nil => simp [posN]
  | cons x t ih => rw [posN_cons, List.length_cons]; split <;> omega
theorem posN_set (h : List Int) : ∀ (i : Nat) (v : Int), i < h.length → posN (h.set i v) = posN h - (if rd h (i : Int) > 0 then 1 else 0) + (if v > 0 then 1 else 0) := by
  induction h with
  | nil => intro i v hi; simp at hi
  | cons x t ih =>
    intro i v hi
    cases i with
    | zero =>
      have e : rd (x :: t) ((0 : Nat) : Int) = x := rfl
      rw [List.set_cons_zero, posN_cons, posN_cons, e]
      split <;> split <;> omega
    | succ i =>
      have e : rd (x :: t) ((i + 1 : Nat) : Int) = rd t (i : Int) := by
        unfold rd
        rw [Int.toNat_natCast, Int.toNat_natCast, List.getD_cons_succ]
      rw [List.set_cons_succ, posN_cons, posN_cons, ih i v (by simpa using hi), e]
      split <;> split <;> split <;> omega
theorem posN_pos (h : List Int) : posN h > 0 ↔ ∃ x ∈ h, x > 0 := by
  induction h with
  | nil => simp [posN]
  | cons x t ih =>
    rw [posN_cons]
    have := posN_bound t
    constructor
    · intro hp
      by_cases hx : x > 0
      · exact ⟨x, by simp, hx⟩
      · rw [if_neg hx] at hp
        obtain ⟨y, hy, hy2⟩ := ih.1 (by omega)
        exact ⟨y, by simp [hy], hy2⟩
    · rintro ⟨y, hy, hy2⟩
      rcases List.mem_cons.1 hy with rfl | hy
      · rw [if_pos hy2]; omega
      · have := ih.2 ⟨y, hy, hy2⟩
        split <;> omega
theorem held_set (m : Nat) (pre : List S40) (x : S40) (hx : Fair m x) : (held m pre).set x.f1.toNat (tot x.f1 pre + x.f2) = held m (pre ++ [x]) := by
  obtain ⟨h0, h1, _⟩ := hx
  apply List.ext_getElem?
  intro j
  unfold held
  rw [List.getElem?_set, List.length_map, List.length_range, List.getElem?_map, List.getElem?_map]
  by_cases hj : j < m
  · rw [List.getElem?_range hj]
    by_cases he : x.f1.toNat = j
    · rw [if_pos he, if_pos (by omega)]
      simp only [Option.map_some, tot_append, tot]
      have : ((j : Nat) : Int) = x.f1 := by omega
      rw [this, if_pos rfl, Int.add_zero]
    · rw [if_neg he]
      simp only [Option.map_some, tot_append, tot]
      rw [if_neg (by omega)]
      simp
  · rw [List.getElem?_eq_none (by simp; omega)]
    rw [if_neg (by omega)]
    rfl

/-- All marks at one place. -/
theorem sweep_l1 (L : List (List S24)) (how : Int) (s : List S40) (hs : s.length ≤ 4194304) (hm : L.length ≤ 4194304) (hF : ∀ x ∈ s, Fair L.length x) (R : List S24) (p : Int) (out : List S24) (suf : List S40) (hsuf : ∀ y t, suf = y :: t → y.f0 ≠ p) : ∀ (g pre : List S40), s = pre ++ (g ++ suf) → (∀ x ∈ g, x.f0 = p) →
    Ev (fun k => barrowref01_sweep.j2 k L how s (held L.length (pre ++ g)) (posN (held L.length (pre ++ g))) out ((pre ++ g).length : Int) p false) R →
    Ev (fun k => barrowref01_sweep.l1 k L how s (held L.length pre) (posN (held L.length pre)) out (pre.length : Int) p) R := by
  intro g
  induction g with
  | nil =>
    intro pre hx _ hE
    rw [List.append_nil] at hE
    refine Ev.step (fun k => ?_) hE
    rw [barrowref01_sweep.l1]
    cases suf with
    | nil =>
      rw [if_neg (by rw [hx]; simp)]
    | cons y t =>
      have hl : pre.length < s.length := len_at (qa := t) (r := y) (by rw [hx]; simp)
      have hg : rd_T40 s (pre.length : Int) = y := by rw [hx]; exact rd72 pre t y _ rfl
      have := hsuf y t rfl
      rw [if_pos (by omega), if_pos (by omega), hg, beq_eq_false_iff_ne.2 this]
  | cons x g ih =>
    intro pre hx hg hE
    have hxs : x ∈ s := by rw [hx]; simp
    have hfx := hF x hxs
    obtain ⟨f1, f2, f3, f4⟩ := hfx
    have hl : pre.length < s.length := len_at (qa := g ++ suf) (r := x) (by rw [hx]; simp)
    have hgt : rd_T40 s (pre.length : Int) = x := by rw [hx]; exact rd72 pre (g ++ suf) x _ rfl
    have hp : x.f0 = p := hg x (by simp)
    have e1 : wrap64 ((pre.length : Int) + 1) = ((pre ++ [x]).length : Int) := by rw [w64_nat _ (by omega)]; simp
    have hw : ((x.f1.toNat : Nat) : Int) = x.f1 := by omega
    have hrd : rd (held L.length pre) x.f1 = tot x.f1 pre := by rw [← hw]; exact rdHeld _ _ _ (by omega)
    have hb := tot_bound x.f1 (m := L.length) (l := pre) (fun y hy => hF y (by rw [hx]; simp [hy]))
    have hset := held_set L.length pre x (hF x hxs)
    have hpn := posN_set (held L.length pre) x.f1.toNat (tot x.f1 pre + x.f2) (by rw [held_len]; omega)
    rw [hset, hw, hrd] at hpn
    have hpb := posN_bound (held L.length pre)
    have hpb2 := posN_bound (held L.length (pre ++ [x]))
    rw [held_len] at hpb hpb2
    have hI := ih (pre ++ [x]) (by rw [hx]; simp) (fun y hy => hg y (by simp [hy])) (by rw [List.append_assoc]; exact hE)
    refine Ev.step (f := fun k => barrowref01_sweep.j2 k L how s (held L.length pre) (posN (held L.length pre)) out (pre.length : Int) p true) (fun k => ?_) (Ev.step (fun k => ?_) hI)
    · rw [barrowref01_sweep.l1, if_pos (by omega), if_pos (by omega), hgt, hp, beq_self_eq_true]
    · rw [barrowref01_sweep.j2, if_pos rfl, if_pos (by omega), if_pos (by omega), hgt, if_pos f1, if_pos (by rw [held_len]; exact f2), hrd, w64 (x := tot x.f1 pre + x.f2) (by omega) (by omega), hset, e1]
      simp only [Option.bind_some]
      by_cases c1 : tot x.f1 pre > 0
      · rw [if_pos c1]
        rw [if_pos c1] at hpn
        rw [w64 (x := posN (held L.length pre) - 1) (by omega) (by omega)]
        by_cases c2 : tot x.f1 pre + x.f2 > 0
        · rw [if_pos c2] at hpn ⊢
          rw [w64 (by omega) (by omega), ← hpn]
        · rw [if_neg c2] at hpn ⊢
          rw [show posN (held L.length pre) - 1 = posN (held L.length (pre ++ [x])) from by omega]
      · rw [if_neg c1]
        rw [if_neg c1] at hpn
        by_cases c2 : tot x.f1 pre + x.f2 > 0
        · rw [if_pos c2] at hpn ⊢
          rw [w64 (by omega) (by omega)]
          rw [show posN (held L.length pre) + 1 = posN (held L.length (pre ++ [x])) from by omega]
        · rw [if_neg c2] at hpn ⊢
          rw [show posN (held L.length pre) = posN (held L.length (pre ++ [x])) from by omega]

def onB (how : Int) (m : Nat) (h : List Int) : Bool := if how = 3 then decide (posN h = 1) && decide (rd h 0 > 0) else if how = 2 then posN h == (m : Int) else decide (posN h > 0)
theorem sweep_on (L : List (List S24)) (how : Int) (s : List S40) (h : List Int) (hl : h.length = L.length) (out : List S24) (i p : Int) (R : List S24) (hE : Ev (fun k => barrowref01_sweep.j4 k L how s h (posN h) out i p (onB how L.length h)) R) :
    Ev (fun k => barrowref01_sweep.j2 k L how s h (posN h) out i p false) R := by
  have hpb := posN_bound h
  unfold onB at hE
  by_cases c3 : how = 3
  · rw [if_pos c3] at hE
    refine Ev.step (f := fun k => barrowref01_sweep.j3 k L how s h (posN h) out i p (decide (posN h > 0))) (fun k => ?_) (Ev.step (fun k => ?_) hE)
    · rw [barrowref01_sweep.j2, if_neg (by decide), if_neg (by omega)]
    · rw [barrowref01_sweep.j3, if_pos c3]
      by_cases c1 : posN h = 1
      · rw [if_pos c1, if_pos (by omega), decide_eq_true c1, Bool.true_and]
      · rw [if_neg c1, decide_eq_false c1, Bool.false_and]
  · rw [if_neg c3] at hE
    by_cases c2 : how = 2
    · rw [if_pos c2] at hE
      refine Ev.step (f := fun k => barrowref01_sweep.j3 k L how s h (posN h) out i p (posN h == (L.length : Int))) (fun k => ?_) (Ev.step (fun k => ?_) hE)
      · rw [barrowref01_sweep.j2, if_neg (by decide), if_pos c2]
      · rw [barrowref01_sweep.j3, if_neg c3]
    · rw [if_neg c2] at hE
      refine Ev.step (f := fun k => barrowref01_sweep.j3 k L how s h (posN h) out i p (decide (posN h > 0))) (fun k => ?_) (Ev.step (fun k => ?_) hE)
      · rw [barrowref01_sweep.j2, if_neg (by decide), if_neg c2]
      · rw [barrowref01_sweep.j3, if_neg c3]

theorem filter_all {l : List S40} {n : Int} (h : ∀ x ∈ l, x.f0 ≤ n) : l.filter (fun x => decide (x.f0 ≤ n)) = l := List.filter_eq_self.2 (fun x hx => decide_eq_true (h x hx))
theorem filter_none {l : List S40} {n : Int} (h : ∀ x ∈ l, n < x.f0) : l.filter (fun x => decide (x.f0 ≤ n)) = [] := by
  rw [List.filter_eq_nil_iff]
  intro x hx
  have := h x hx
  simp
  omega
/-- Which numbers are on. -/
def OnAt (L : List (List S24)) (how : Int) (s : List S40) (n : Int) : Prop := 1 ≤ n ∧ n ≤ 1000000000 ∧ onB how L.length (held L.length (s.filter (fun x => decide (x.f0 ≤ n)))) = true

theorem last_mem {o : List S24} {x : S24} (h : Norm (o ++ [x])) : Mem (o ++ [x]) x.f1 := by
  obtain ⟨h1, h2, h3, h4⟩ := (normFrom_snoc o x _).1 h
  have : -1 ≤ hiOf (-1) o := by
    have : ∀ (u : List S24) (c : Int), NormFrom c u → c ≤ hiOf c u := by
      intro u
      induction u with
      | nil => intro c _; exact Int.le_refl _
      | cons s v ihv => intro c hc; have := ihv s.f1 hc.2.2.2; rw [hiOf_cons]; have := hc.1; have := hc.2.1; omega
    exact this o _ h1
  exact (mem_snoc _ _ _).2 (.inr ⟨by omega, by omega, h3, Int.le_refl _⟩)
theorem split_at (p : Int) (l : List S40) : ∃ g r, l = g ++ r ∧ (∀ x ∈ g, x.f0 = p) ∧ (∀ y t, r = y :: t → y.f0 ≠ p) := by
  induction l with
  | nil => exact ⟨[], [], rfl, by simp, by simp⟩
  | cons x t ih =>
    by_cases hx : x.f0 = p
    · obtain ⟨g, r, h1, h2, h3⟩ := ih
      refine ⟨x :: g, r, by rw [h1]; rfl, ?_, h3⟩
      intro y hy
      rcases List.mem_cons.1 hy with rfl | hy
      · exact hx
      · exact h2 y hy
    · refine ⟨[], x :: t, rfl, by simp, ?_⟩
      intro y u h
      injection h with h _
      subst h
      exact hx

theorem sweep_l0 (L : List (List S24)) (how : Int) (s : List S40) (hs : s.length ≤ 4194304) (hm : L.length ≤ 4194304) (hF : ∀ x ∈ s, Fair L.length x) (hS : Srt s) (hz : onB how L.length (held L.length s) = false) : ∀ (d : Nat) (pre suf : List S40) (out : List S24), suf.length ≤ d → s = pre ++ suf → Norm out → out.length ≤ pre.length →
    (∀ x ∈ pre, ∀ y ∈ suf, x.f0 < y.f0) → (∀ n, Mem out n ↔ OnAt L how s n ∧ ∀ y ∈ suf, n < y.f0) →
    ∃ R, Ev (fun k => barrowref01_sweep.l0 k L how s (held L.length pre) (posN (held L.length pre)) out (pre.length : Int)) R ∧ Rep R (OnAt L how s) ∧ R.length ≤ s.length := by
  intro d
  induction d with
  | zero =>
    intro pre suf out hd hx hN hol hlt hM
    have : suf = [] := List.eq_nil_of_length_eq_zero (by omega)
    subst this
    refine ⟨out, Ev.step (f := fun _ => some out) (fun k => ?_) (Ev.now _), ⟨hN, fun n => by rw [hM]; simp⟩, by rw [hx, List.append_nil]; exact hol⟩
    rw [barrowref01_sweep.l0, if_neg (by rw [hx]; simp)]
  | succ d ih =>
    intro pre suf out hd hx hN hol hlt hM
    cases suf with
    | nil =>
      refine ⟨out, Ev.step (f := fun _ => some out) (fun k => ?_) (Ev.now _), ⟨hN, fun n => by rw [hM]; simp⟩, by rw [hx, List.append_nil]; exact hol⟩
      rw [barrowref01_sweep.l0, if_neg (by rw [hx]; simp)]
    | cons x t =>
      obtain ⟨p, hp⟩ : ∃ p, x.f0 = p := ⟨_, rfl⟩
      obtain ⟨g, r, hgr, hg, hr⟩ := split_at p t
      have hxF := hF x (by rw [hx]; simp)
      obtain ⟨_, _, _, fx1, fx2⟩ := hxF
      have hl : pre.length < s.length := len_at (qa := t) hx
      have hgt : rd_T40 s (pre.length : Int) = x := by rw [hx]; exact rd72 pre t x _ rfl
      have hx2 : s = pre ++ ((x :: g) ++ r) := by rw [hx, hgr]; rfl
      have hgall : ∀ y ∈ x :: g, y.f0 = p := by
        intro y hy
        rcases List.mem_cons.1 hy with rfl | hy
        · exact hp
        · exact hg y hy
      have hSr : ∀ y ∈ r, p < y.f0 := by
        -- sorted: what comes behind is no less, and the first is not p
        have hS2 := hS
        rw [hx2] at hS2
        have hS3 := (List.pairwise_append.1 hS2).2.1
        have hS4 := List.pairwise_append.1 hS3
        cases r with
        | nil => intro y hy; simp at hy
        | cons z u =>
          have hz1 : le72 x z = true := hS4.2.2 x (by simp) z (by simp)
          have hz2 := hr z u rfl
          have hz3 := List.pairwise_cons.1 hS4.2.1
          intro y hy
          have hz4 : z.f0 ≤ y.f0 := by
            rcases List.mem_cons.1 hy with rfl | hy
            · exact Int.le_refl _
            · have := hz3.1 y hy
              simpa [le72] using this
          simp [le72] at hz1
          omega
      obtain ⟨pre', hpre'⟩ : ∃ pre', pre ++ (x :: g) = pre' := ⟨_, rfl⟩
      have hs' : s = pre' ++ r := by rw [← hpre', hx2]; simp
      have hpl : pre.length + 1 ≤ pre'.length := by rw [← hpre']; simp
      have hpl2 : pre'.length ≤ s.length := by rw [hs', List.length_append]; omega
      have hple : ∀ y ∈ pre', y.f0 ≤ p := by
        intro y hy
        rw [← hpre', List.mem_append] at hy
        rcases hy with hy | hy
        · have := hlt y hy x (by simp); omega
        · have := hgall y hy; omega
      have hlt' : ∀ y ∈ pre', ∀ z ∈ r, y.f0 < z.f0 := fun y hy z hz2 => by have := hple y hy; have := hSr z hz2; omega
      -- the state for the numbers from p to the next mark
      have hst : ∀ n, p ≤ n → (∀ z ∈ r, n < z.f0) → s.filter (fun x => decide (x.f0 ≤ n)) = pre' := by
        intro n h1 h2
        rw [hs', List.filter_append, filter_all (fun y hy => by have := hple y hy; omega), filter_none h2, List.append_nil]
      have hMp : ∀ n, Mem out n ↔ OnAt L how s n ∧ n < p := by
        intro n
        rw [hM]
        constructor
        · rintro ⟨h1, h2⟩; exact ⟨h1, by have := h2 x (by simp); omega⟩
        · rintro ⟨h1, h2⟩
          refine ⟨h1, fun y hy => ?_⟩
          rcases List.mem_cons.1 hy with rfl | hy
          · omega
          · rw [hgr, List.mem_append] at hy
            rcases hy with hy | hy
            · have := hg y hy; omega
            · have := hSr y hy; omega
      -- what follows the group, for any list out' and its being on or not
      have enter : ∀ {R : List S24}, Ev (fun k => barrowref01_sweep.j4 k L how s (held L.length pre') (posN (held L.length pre')) out (pre'.length : Int) p (onB how L.length (held L.length pre'))) R → Ev (fun k => barrowref01_sweep.l0 k L how s (held L.length pre) (posN (held L.length pre)) out (pre.length : Int)) R := by
        intro R h
        have h2 := sweep_on L how s (held L.length pre') (held_len _ _) out (pre'.length : Int) p R h
        rw [← hpre'] at h2
        have h3 := sweep_l1 L how s hs hm hF R p out r hr (x :: g) pre hx2 hgall h2
        refine Ev.step (fun k => ?_) h3
        rw [barrowref01_sweep.l0, if_pos (by omega), if_pos (by omega), hgt, hp]
      have skip : ∀ {R : List S24}, (onB how L.length (held L.length pre') = false ∨ r = []) → Ev (fun k => barrowref01_sweep.l0 k L how s (held L.length pre') (posN (held L.length pre')) out (pre'.length : Int)) R → Ev (fun k => barrowref01_sweep.l0 k L how s (held L.length pre) (posN (held L.length pre)) out (pre.length : Int)) R := by
        intro R hor h
        refine enter (Ev.step (f := fun k => barrowref01_sweep.j5 k L how s (held L.length pre') (posN (held L.length pre')) out (pre'.length : Int) p true) (fun k => ?_) (Ev.step (fun k => ?_) h))
        · rw [barrowref01_sweep.j4]
          rcases hor with hor | hor
          · rw [hor, if_neg (by decide)]
          · have : pre'.length = s.length := by rw [hs', hor, List.append_nil]
            rw [this, decide_eq_true (by omega)]
            split <;> rfl
        · rw [barrowref01_sweep.j5, if_pos rfl]
      by_cases hend : r = []
      · subst hend
        rw [List.append_nil] at hs'
        have hoff : ∀ n, p ≤ n → ¬ OnAt L how s n := by
          intro n h1 h2
          have := h2.2.2
          rw [hst n h1 (by simp), ← hs', hz] at this
          cases this
        refine ⟨out, skip (.inr rfl) (Ev.step (f := fun _ => some out) (fun k => ?_) (Ev.now _)), ⟨hN, fun n => ?_⟩, by omega⟩
        · rw [barrowref01_sweep.l0, if_neg (by rw [hs']; omega)]
        · rw [hMp]
          constructor
          · exact fun h => h.1
          · intro h
            refine ⟨h, ?_⟩
            rcases Int.lt_or_le n p with h5 | h5
            · exact h5
            · exact absurd h (hoff n h5)
      · obtain ⟨z, u, hzu⟩ : ∃ z u, r = z :: u := by
          cases r with
          | nil => exact absurd rfl hend
          | cons z u => exact ⟨z, u, rfl⟩
        obtain ⟨q, hq⟩ : ∃ q, z.f0 = q := ⟨_, rfl⟩
        have hpq : p < q := by have := hSr z (by rw [hzu]; simp); omega
        have hzF := hF z (by rw [hs', hzu]; simp)
        obtain ⟨_, _, _, fz1, fz2⟩ := hzF
        have hl' : pre'.length < s.length := len_at (qa := u) (r := z) (by rw [hs', hzu])
        have hgz : rd_T40 s (pre'.length : Int) = z := by rw [hs', hzu]; exact rd72 pre' u z _ rfl
        have hru : ∀ y ∈ r, q ≤ y.f0 := by
          have hS2 := hS
          rw [hs', hzu] at hS2
          have hS3 := List.pairwise_cons.1 (List.pairwise_append.1 hS2).2.1
          intro y hy
          rw [hzu] at hy
          rcases List.mem_cons.1 hy with rfl | hy
          · omega
          · have := hS3.1 y hy
            simp [le72] at this
            omega
        have hlen' : r.length ≤ d := by
          have h1 : t.length = g.length + r.length := by rw [hgr, List.length_append]
          simp only [List.length_cons] at hd
          omega
        have hcov : ∀ n, (OnAt L how s n ∧ ∀ y ∈ r, n < y.f0) ↔ (OnAt L how s n ∧ n < p) ∨ (p ≤ n ∧ n < q ∧ n ≤ 1000000000 ∧ onB how L.length (held L.length pre') = true) := by
          intro n
          constructor
          · rintro ⟨h1, h2⟩
            rcases Int.lt_or_le n p with h5 | h5
            · exact .inl ⟨h1, h5⟩
            · have h6 := h1.2.2
              rw [hst n h5 h2] at h6
              exact .inr ⟨h5, by have := h2 z (by rw [hzu]; simp); omega, h1.2.1, h6⟩
          · rintro (⟨h1, h2⟩ | ⟨h1, h2, h3, h4⟩)
            · exact ⟨h1, fun y hy => by have := hru y hy; omega⟩
            · have h5 : ∀ y ∈ r, n < y.f0 := fun y hy => by have := hru y hy; omega
              exact ⟨⟨by omega, h3, by rw [hst n h1 h5]; exact h4⟩, h5⟩
        by_cases hon : onB how L.length (held L.length pre') = true
        · -- a piece [p, q - 1] is put behind
          have main : ∀ out' : List S24, Norm out' → out'.length ≤ pre'.length → (∀ n, Mem out' n ↔ Mem out n ∨ (p ≤ n ∧ n < q ∧ n ≤ 1000000000)) → (∀ k, barrowref01_sweep.j5 (k + 1) L how s (held L.length pre') (posN (held L.length pre')) out (pre'.length : Int) p false = barrowref01_sweep.l0 k L how s (held L.length pre') (posN (held L.length pre')) out' (pre'.length : Int)) →
              ∃ R, Ev (fun k => barrowref01_sweep.l0 k L how s (held L.length pre) (posN (held L.length pre)) out (pre.length : Int)) R ∧ Rep R (OnAt L how s) ∧ R.length ≤ s.length := by
            intro out' hN' hl2 hM' hj
            obtain ⟨R, hR, hRep⟩ := ih pre' r out' hlen' hs' hN' hl2 hlt' (fun n => by rw [hM', hMp, hcov]; simp only [hon, and_true])
            refine ⟨R, enter (Ev.step (f := fun k => barrowref01_sweep.j5 k L how s (held L.length pre') (posN (held L.length pre')) out (pre'.length : Int) p false) (fun k => ?_) (Ev.step hj hR)), hRep⟩
            rw [barrowref01_sweep.j4, hon, if_pos rfl, decide_eq_false (by omega)]
          have hwq : wrap64 (q - 1) = q - 1 := w64 (by omega) (by omega)
          rcases List.eq_nil_or_concat out with hout | ⟨o, y, hout⟩
          · refine main [⟨p, q - 1⟩] ⟨by simp only; omega, by simp only; omega, by simp only; omega, trivial⟩ (by simp only [List.length_singleton]; omega) (fun n => ?_) (fun k => ?_)
            · rw [hout, mem_cons]; simp [mem_nil]; omega
            · rw [barrowref01_sweep.j5, if_neg (by decide), if_pos (by omega), if_pos (by omega), if_neg (by rw [hout]; simp), if_pos (by omega), hgz, hq, hwq, hout]
              rfl
          · rw [List.concat_eq_append] at hout
            have hN2 := hN
            rw [hout] at hN2
            obtain ⟨n1, n2, n3, n4⟩ := (normFrom_snoc o y _).1 hN2
            have hyp : y.f1 < p := by
              have := last_mem hN2
              rw [← hout] at this
              exact ((hMp y.f1).1 this).2
            have hol2 : out.length = o.length + 1 := by rw [hout, List.length_append, List.length_singleton]
            have e1 : wrap64 ((out.length : Int) - 1) = (o.length : Int) := by rw [w64 (by omega) (by omega)]; omega
            have hgy : rd_T24 out (o.length : Int) = y := by rw [hout]; exact rdT o [] y
            have hwp : wrap64 (p - 1) = p - 1 := w64 (by omega) (by omega)
            by_cases hadj : y.f1 = p - 1
            · refine main (o ++ [⟨y.f0, q - 1⟩]) ((normFrom_snoc o _ _).2 ⟨n1, n2, by simp only; omega, by simp only; omega⟩) (by rw [List.length_append, List.length_singleton]; omega) (fun n => ?_) (fun k => ?_)
              · rw [hout, mem_snoc, mem_snoc]
                simp only
                constructor
                · rintro (h | ⟨h1, h2, h3, h4⟩)
                  · exact .inl (.inl h)
                  · rcases Int.lt_or_le n p with h5 | h5
                    · exact .inl (.inr ⟨h1, h2, h3, by omega⟩)
                    · exact .inr ⟨h5, by omega, h2⟩
                · rintro ((h | ⟨h1, h2, h3, h4⟩) | ⟨h1, h2, h3⟩)
                  · exact .inl h
                  · exact .inr ⟨h1, h2, h3, by omega⟩
                  · exact .inr ⟨by omega, h3, by omega, by omega⟩
              · rw [barrowref01_sweep.j5, if_neg (by decide), if_pos (by omega), if_pos (by omega), if_pos (by omega), e1, if_pos (by omega), if_pos (by omega), hgy, hwp, if_pos hadj, hgz, hq, hwq, hout, Int.toNat_natCast, List.set_append_right _ _ (Nat.le_refl _), Nat.sub_self]
                rfl
            · refine main (out ++ [⟨p, q - 1⟩]) (by rw [hout]; exact (normFrom_snoc _ _ _).2 ⟨hN2, by rw [hiOf_snoc]; simp only; omega, by simp only; omega, by simp only; omega⟩) (by rw [List.length_append, List.length_singleton]; omega) (fun n => ?_) (fun k => ?_)
              · rw [mem_snoc]
                simp only
                constructor
                · rintro (h | ⟨h1, h2, h3, h4⟩)
                  · exact .inl h
                  · exact .inr ⟨h3, by omega, h2⟩
                · rintro (h | ⟨h1, h2, h3⟩)
                  · exact .inl h
                  · exact .inr ⟨by omega, h3, h1, by omega⟩
              · rw [barrowref01_sweep.j5, if_neg (by decide), if_pos (by omega), if_pos (by omega), if_pos (by omega), e1, if_pos (by omega), if_pos (by omega), hgy, hwp, if_neg hadj, if_pos (by omega), hgz, hq, hwq]
        · have hoff : onB how L.length (held L.length pre') = false := Bool.eq_false_iff.2 hon
          obtain ⟨R, hR, hRep⟩ := ih pre' r out hlen' hs' hN (by omega) hlt' (fun n => by
            rw [hMp, hcov]
            constructor
            · exact .inl
            · rintro (h | ⟨_, _, _, h⟩)
              · exact h
              · exact absurd h hon)
          exact ⟨R, skip (.inl hoff) hR, hRep⟩
end Go.Proofs.Ytcblhfnjcanliaa.Pure
