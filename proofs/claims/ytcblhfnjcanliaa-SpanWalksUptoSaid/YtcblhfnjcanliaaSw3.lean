/- What the reference's sweep answers, as sets: union, meet, minus. -/
import Derived.Test.YtcblhfnjcanliaaSw2
namespace Go.Proofs.Ytcblhfnjcanliaa.Pure
open Go.RowKit Go.Proofs.Ytcblhfnjcanliaa.G Go.Proofs.YtcblhfnjcanliaaW.PrintWords Go.Proofs.YtcblhfnjcanliaaW.PrintLast Go.Proofs.YtcblhfnjcanliaaW.PrintMore
set_option linter.unusedVariables false

def dep (n : Int) : List S24 → Int
  | [] => 0
  | r :: t => (if okB r = true ∧ (clipS r).f0 ≤ n ∧ n ≤ (clipS r).f1 then 1 else 0) + dep n t
theorem clip_facts (r : S24) : 1 ≤ (clipS r).f0 ∧ (clipS r).f1 ≤ 1000000000 ∧ (okB r = true ↔ (clipS r).f0 ≤ (clipS r).f1) := by
  refine ⟨?_, ?_, by unfold okB; exact decide_eq_true_iff⟩
  · unfold clipS; simp only; split <;> omega
  · unfold clipS; simp only; split <;> omega
theorem dep_nonneg (n : Int) (l : List S24) : 0 ≤ dep n l := by
  induction l with
  | nil => simp [dep]
  | cons r t ih => simp only [dep]; split <;> omega
theorem dep_pos (n : Int) (l : List S24) (h1 : 1 ≤ n) (h2 : n ≤ 1000000000) : dep n l > 0 ↔ Mem l n := by
  induction l with
  | nil => simp [dep, mem_nil]
  | cons r t ih =>
    have hd := dep_nonneg n t
    rw [mem_cons]
    simp only [dep]
    have hc : (okB r = true ∧ (clipS r).f0 ≤ n ∧ n ≤ (clipS r).f1) ↔ (1 ≤ n ∧ n ≤ 1000000000 ∧ r.f0 ≤ n ∧ n ≤ r.f1) := by
      obtain ⟨_, _, h3⟩ := clip_facts r
      rw [h3]
      unfold clipS
      simp only
      constructor
      · rintro ⟨a, b, c⟩
        split at b <;> split at c <;> exact ⟨h1, h2, by omega, by omega⟩
      · rintro ⟨_, _, b, c⟩
        refine ⟨?_, ?_, ?_⟩ <;> (try split) <;> (try split) <;> omega
    by_cases hx : okB r = true ∧ (clipS r).f0 ≤ n ∧ n ≤ (clipS r).f1
    · rw [if_pos hx]
      exact ⟨fun _ => .inl (hc.1 hx), fun _ => by omega⟩
    · rw [if_neg hx]
      constructor
      · intro h; exact .inr (ih.1 (by omega))
      · rintro (h | h)
        · exact absurd (hc.2 h) hx
        · have := ih.2 h; omega
abbrev upto (n : Int) (l : List S40) : List S40 := l.filter (fun x => decide (x.f0 ≤ n))
theorem tot_mk1 (w v n : Int) (r : S24) : tot w (upto n (mk1 v r)) = if v = w then (if okB r = true ∧ (clipS r).f0 ≤ n ∧ n ≤ (clipS r).f1 then 1 else 0) else 0 := by
  obtain ⟨_, _, h3⟩ := clip_facts r
  unfold mk1 upto
  by_cases ho : okB r = true
  · have hle := h3.1 ho
    rw [if_pos ho]
    simp only [ho, true_and]
    by_cases a : (clipS r).f0 ≤ n
    · by_cases b : (clipS r).f1 + 1 ≤ n
      · rw [List.filter_cons_of_pos (by simpa using a), List.filter_cons_of_pos (by simpa using b), List.filter_nil]
        simp only [tot]
        split
        · rw [if_neg (by omega)]; omega
        · omega
      · rw [List.filter_cons_of_pos (by simpa using a), List.filter_cons_of_neg (by simpa using b), List.filter_nil]
        simp only [tot]
        split
        · rw [if_pos (by omega)]; omega
        · omega
    · rw [List.filter_cons_of_neg (by simpa using a), List.filter_cons_of_neg (by simp; omega), List.filter_nil]
      simp only [tot]
      split
      · rw [if_neg (by omega)]
      · rfl
  · rw [if_neg ho, List.filter_nil]
    simp only [tot]
    split
    · rw [if_neg (fun h => ho h.1)]
    · rfl
theorem tot_mkRow (w v n : Int) (row : List S24) : tot w (upto n (mkRow v row)) = if v = w then dep n row else 0 := by
  induction row with
  | nil => simp [mkRow, tot, dep]
  | cons r t ih =>
    have e : mkRow v (r :: t) = mk1 v r ++ mkRow v t := by unfold mkRow; rw [List.flatMap_cons]
    rw [e]
    unfold upto at *
    rw [List.filter_append, tot_append, ih]
    have := tot_mk1 w v n r
    unfold upto at this
    rw [this]
    simp only [dep]
    split <;> rfl
theorem tot_mkAll_low (w n : Int) (L : List (List S24)) : ∀ b : Int, w < b → tot w (upto n (mkAll b L)) = 0 := by
  induction L with
  | nil => intro b _; rfl
  | cons r t ih =>
    intro b hb
    have h1 := ih (b + 1) (by omega)
    have h2 := tot_mkRow w b n r
    unfold upto at *
    simp only [mkAll]
    rw [List.filter_append, tot_append, h1, h2, if_neg (by omega)]
    rfl
theorem tot_mkAll (n : Int) (L : List (List S24)) : ∀ (b : Int) (j : Nat) (row : List S24), L[j]? = some row → tot (b + (j : Int)) (upto n (mkAll b L)) = dep n row := by
  induction L with
  | nil => intro b j row h; simp at h
  | cons r t ih =>
    intro b j row h
    cases j with
    | zero =>
      simp only [List.getElem?_cons_zero, Option.some.injEq] at h
      subst h
      have h1 := tot_mkAll_low (b + ((0 : Nat) : Int)) n t (b + 1) (by omega)
      have h2 := tot_mkRow (b + ((0 : Nat) : Int)) b n r
      unfold upto at *
      simp only [mkAll]
      rw [List.filter_append, tot_append, h1, h2, if_pos (by omega)]
      omega
    | succ j =>
      simp only [List.getElem?_cons_succ] at h
      have h1 := ih (b + 1) j row h
      have h2 := tot_mkRow (b + ((j + 1 : Nat) : Int)) b n r
      unfold upto at *
      simp only [mkAll]
      rw [List.filter_append, tot_append, h2, if_neg (by omega), show b + ((j + 1 : Nat) : Int) = b + 1 + (j : Int) from by omega, h1]
      omega
theorem held_dep (L : List (List S24)) (s : List S40) (hs : s.Perm (mkAll 0 L)) (n : Int) : held L.length (s.filter (fun x => decide (x.f0 ≤ n))) = L.map (dep n) := by
  apply List.ext_getElem?
  intro j
  unfold held
  rw [List.getElem?_map, List.getElem?_map]
  by_cases hj : j < L.length
  · rw [List.getElem?_range hj, List.getElem?_eq_getElem hj]
    simp only [Option.map_some, Option.some.injEq]
    have h := tot_mkAll n L 0 j L[j] (List.getElem?_eq_getElem hj)
    rw [Int.zero_add] at h
    rw [← h]
    exact tot_perm _ (hs.filter _)
  · rw [List.getElem?_eq_none (by simp; omega), List.getElem?_eq_none (by omega)]
    rfl
theorem mkAll_fair (L : List (List S24)) : ∀ (b : Int) (m : Nat), 0 ≤ b → b + L.length ≤ m → ∀ x ∈ mkAll b L, Fair m x := by
  induction L with
  | nil => intro b m _ _ x hx; simp [mkAll] at hx
  | cons r t ih =>
    intro b m hb hm x hx
    simp only [List.length_cons] at hm
    simp only [mkAll, List.mem_append] at hx
    rcases hx with hx | hx
    · unfold mkRow at hx
      rw [List.mem_flatMap] at hx
      obtain ⟨y, _, hy⟩ := hx
      obtain ⟨h1, h2, h3⟩ := clip_facts y
      unfold mk1 at hy
      split at hy
      · rename_i ho
        have := h3.1 ho
        simp only [List.mem_cons, List.not_mem_nil, or_false] at hy
        rcases hy with rfl | rfl
        · exact ⟨hb, by simp only; omega, .inl rfl, h1, by simp only; omega⟩
        · exact ⟨hb, by simp only; omega, .inr rfl, by simp only; omega, by simp only; omega⟩
      · simp at hy
    · exact ih (b + 1) m (by omega) (by omega) x hx
theorem upto_all {l : List S40} (h : ∀ x ∈ l, x.f0 ≤ 1000000001) : upto 1000000001 l = l := filter_all h
theorem dep_over (l : List S24) : dep 1000000001 l = 0 := by
  induction l with
  | nil => rfl
  | cons r t ih =>
    obtain ⟨h1, h2, h3⟩ := clip_facts r
    simp only [dep, ih]
    rw [if_neg (by omega)]
    rfl
theorem posN_zero (L : List (List S24)) : posN (L.map (dep 1000000001)) = 0 := by
  induction L with
  | nil => rfl
  | cons r t ih => rw [List.map_cons, posN_cons, ih, dep_over]; rfl
theorem posN_rep (m : Nat) : posN (List.replicate m 0) = 0 := by
  induction m with
  | zero => rfl
  | succ m ih => rw [List.replicate_succ, posN_cons, ih]; rfl
theorem held_nil (m : Nat) : held m [] = List.replicate m 0 := by
  unfold held
  apply List.ext_getElem?
  intro j
  rw [List.getElem?_map, List.getElem?_replicate]
  by_cases hj : j < m
  · rw [List.getElem?_range hj, if_pos hj]; rfl
  · rw [List.getElem?_eq_none (by simp; omega), if_neg hj]; rfl
theorem sweep_ev (L : List (List S24)) (how : Int) (hL : L.length ≤ 4194304) (hr : 2 * L.flatten.length ≤ 4194304) (hh : how = 2 → 0 < L.length) :
    ∃ R, Ev (fun k => barrowref01_sweep.f k L how) R ∧ Rep R (fun n => 1 ≤ n ∧ n ≤ 1000000000 ∧ onB how L.length (L.map (dep n)) = true) ∧ R.length ≤ 2 * L.flatten.length := by
  have hlen := mkAll_len L 0
  obtain ⟨s, hs, hperm, hsrt⟩ := sorted_ev (mkAll 0 L) (by omega)
  have hsl : s.length ≤ 4194304 := by rw [hperm.length_eq]; omega
  have hF : ∀ x ∈ s, Fair L.length x := fun x hx => mkAll_fair L 0 L.length (Int.le_refl _) (by omega) x (hperm.mem_iff.1 hx)
  have hz : onB how L.length (held L.length s) = false := by
    have e := held_dep L s hperm 1000000001
    rw [filter_all (fun x hx => (hF x hx).2.2.2.2)] at e
    rw [e]
    unfold onB
    have hp := posN_zero L
    split
    · rw [hp]; rfl
    · split
      · rename_i h2
        have := hh h2
        rw [hp, beq_eq_false_iff_ne]
        omega
      · rw [hp]; rfl
  obtain ⟨R, hR, hRep, hRl⟩ := sweep_l0 L how s hsl hL hF hsrt hz s.length [] s [] (Nat.le_refl _) rfl trivial (by simp) (by simp) (fun n => by
    constructor
    · intro h; exact absurd h (mem_nil n)
    · rintro ⟨h1, h2⟩
      exfalso
      -- no mark up to n: the state is that of nothing, which is as the state of all
      have e : s.filter (fun x => decide (x.f0 ≤ n)) = [] := filter_none h2
      have e2 := h1.2.2
      rw [e, held_nil] at e2
      unfold onB at e2
      rw [posN_rep] at e2
      split at e2
      · simp at e2
      · split at e2
        · rename_i h3
          have := hh h3
          simp at e2
          omega
        · simp at e2)
  refine ⟨R, ?_, hRep.of (fun n => ?_), by rw [hperm.length_eq] at hRl; omega⟩
  · unfold barrowref01_sweep.f
    refine Ev.bind (marks_ev L hL hr) (Ev.bind hs ?_)
    rw [held_nil, posN_rep] at hR
    refine Ev.congr (fun k => ?_) hR
    rw [if_pos (by omega), if_pos (by omega), Int.toNat_natCast]
    rfl
  · unfold OnAt
    rw [held_dep L s hperm n]
theorem onB_union (L : List (List S24)) (n : Int) (h1 : 1 ≤ n) (h2 : n ≤ 1000000000) : onB 1 L.length (L.map (dep n)) = true ↔ Mem L.flatten n := by
  unfold onB
  rw [if_neg (by decide), if_neg (by decide), decide_eq_true_iff, posN_pos]
  constructor
  · rintro ⟨x, hx, hp⟩
    rw [List.mem_map] at hx
    obtain ⟨l, hl, rfl⟩ := hx
    obtain ⟨a, b, r, hr, c⟩ := (dep_pos n l h1 h2).1 hp
    exact ⟨a, b, r, List.mem_flatten.2 ⟨l, hl, hr⟩, c⟩
  · rintro ⟨a, b, r, hr, c⟩
    obtain ⟨l, hl, hr2⟩ := List.mem_flatten.1 hr
    exact ⟨dep n l, List.mem_map.2 ⟨l, hl, rfl⟩, (dep_pos n l h1 h2).2 ⟨a, b, r, hr2, c⟩⟩
theorem sweep_union (L : List (List S24)) (hL : L.length ≤ 4194304) (hr : 2 * L.flatten.length ≤ 4194304) : Ev (fun k => barrowref01_sweep.f k L 1) (canon L.flatten) := by
  obtain ⟨R, hR, hRep, hRl⟩ := sweep_ev L 1 hL hr (fun h => absurd h (by decide))
  have : R = canon L.flatten := Rep.unique hRep ((canon_rep L.flatten).of (fun n => by
    constructor
    · intro h; exact ⟨h.1, h.2.1, (onB_union L n h.1 h.2.1).2 h⟩
    · rintro ⟨h1, h2, h3⟩; exact (onB_union L n h1 h2).1 h3))
  rw [← this]
  exact hR
theorem posN_two (x y : Int) : posN [x, y] = (if x > 0 then 1 else 0) + ((if y > 0 then 1 else 0) + 0) := rfl
theorem sweep_meet (a b : List S24) (h : a.length + b.length ≤ 2097152) : ∃ R, Ev (fun k => barrowref01_sweep.f k [a, b] 2) R ∧ Rep R (fun n => Mem a n ∧ Mem b n) ∧ R.length ≤ 2 * (a.length + b.length) := by
  obtain ⟨R, hR, hRep, hRl⟩ := sweep_ev [a, b] 2 (by simp) (by simp; omega) (by simp)
  refine ⟨R, hR, hRep.of (fun n => ?_), by simpa using hRl⟩
  have key : 1 ≤ n → n ≤ 1000000000 → (onB 2 [a, b].length ([a, b].map (dep n)) = true ↔ Mem a n ∧ Mem b n) := by
    intro h1 h2
    unfold onB
    rw [if_neg (by decide), if_pos rfl, beq_iff_eq, ← dep_pos n a h1 h2, ← dep_pos n b h1 h2]
    simp only [List.map_cons, List.map_nil, List.length_cons, List.length_nil, posN_two]
    split <;> split <;> omega
  constructor
  · rintro ⟨h1, h2, h3⟩; exact (key h1 h2).1 h3
  · intro h3; exact ⟨h3.1.1, h3.1.2.1, (key h3.1.1 h3.1.2.1).2 h3⟩
theorem sweep_minus (a b : List S24) (h : a.length + b.length ≤ 2097152) : ∃ R, Ev (fun k => barrowref01_sweep.f k [a, b] 3) R ∧ Rep R (fun n => Mem a n ∧ ¬ Mem b n) ∧ R.length ≤ 2 * (a.length + b.length) := by
  obtain ⟨R, hR, hRep, hRl⟩ := sweep_ev [a, b] 3 (by simp) (by simp; omega) (fun h => absurd h (by decide))
  refine ⟨R, hR, hRep.of (fun n => ?_), by simpa using hRl⟩
  have key : 1 ≤ n → n ≤ 1000000000 → (onB 3 [a, b].length ([a, b].map (dep n)) = true ↔ Mem a n ∧ ¬ Mem b n) := by
    intro h1 h2
    have e : rd [dep n a, dep n b] 0 = dep n a := rfl
    unfold onB
    rw [if_pos rfl, Bool.and_eq_true, decide_eq_true_iff, decide_eq_true_iff, ← dep_pos n a h1 h2, ← dep_pos n b h1 h2]
    simp only [List.map_cons, List.map_nil, posN_two, e]
    split <;> split <;> omega
  constructor
  · rintro ⟨h1, h2, h3⟩; exact (key h1 h2).1 h3
  · intro h3; exact ⟨h3.1.1, h3.1.2.1, (key h3.1.1 h3.1.2.1).2 h3⟩
end Go.Proofs.Ytcblhfnjcanliaa.Pure
