/- Plain theory of lists of runs: the set that a list means, the list in form, the union as the program makes it, how many numbers there are. -/
import Derived.Test.YtmlfbgkaondljaaGx0
namespace Go.Proofs.Ytmlfbgkaondljaa.Pure
open Go.Proofs.Ytmlfbgkaondljaa.G
set_option linter.unusedVariables false
/-- n is in the set that the list means. -/
def Mem (l : List S28) (n : Int) : Prop := 1 ≤ n ∧ n ≤ 1000000000 ∧ ∃ r ∈ l, r.f0 ≤ n ∧ n ≤ r.f1
def NormFrom : Int → List S28 → Prop
  | _, [] => True
  | last, r :: t => last + 2 ≤ r.f0 ∧ r.f0 ≤ r.f1 ∧ r.f1 ≤ 1000000000 ∧ NormFrom r.f1 t
def Norm (l : List S28) : Prop := NormFrom (-1) l

theorem mem_nil (n : Int) : ¬ Mem [] n := by simp [Mem]
theorem mem_cons (r : S28) (t : List S28) (n : Int) : Mem (r :: t) n ↔ (1 ≤ n ∧ n ≤ 1000000000 ∧ r.f0 ≤ n ∧ n ≤ r.f1) ∨ Mem t n := by
  simp only [Mem, List.mem_cons]
  constructor
  · rintro ⟨h1, h2, x, rfl | hx, h3, h4⟩
    · exact .inl ⟨h1, h2, h3, h4⟩
    · exact .inr ⟨h1, h2, x, hx, h3, h4⟩
  · rintro (⟨h1, h2, h3, h4⟩ | ⟨h1, h2, x, hx, h3, h4⟩)
    · exact ⟨h1, h2, r, .inl rfl, h3, h4⟩
    · exact ⟨h1, h2, x, .inr hx, h3, h4⟩
theorem mem_append (a b : List S28) (n : Int) : Mem (a ++ b) n ↔ Mem a n ∨ Mem b n := by
  induction a with
  | nil => simp [mem_nil]
  | cons r t ih => rw [List.cons_append, mem_cons, mem_cons, ih, or_assoc]
theorem NormFrom.low {l : List S28} : ∀ {last : Int}, NormFrom last l → ∀ {n}, Mem l n → last + 2 ≤ n := by
  induction l with
  | nil => intro last _ n h; exact absurd h (mem_nil n)
  | cons r t ih =>
    intro last h n hn
    obtain ⟨h1, h2, h3, h4⟩ := h
    rcases (mem_cons r t n).1 hn with ⟨_, _, h5, h6⟩ | h5
    · omega
    · have := ih h4 h5; omega
theorem NormFrom.mono {l : List S28} {a b : Int} (hab : b ≤ a) (h : NormFrom a l) : NormFrom b l := by
  cases l with
  | nil => trivial
  | cons r t => obtain ⟨h1, h2, h3, h4⟩ := h; exact ⟨by omega, h2, h3, h4⟩
theorem mem_tail {r : S28} {t : List S28} {last : Int} (hl : -1 ≤ last) (h : NormFrom last (r :: t)) (n : Int) : Mem t n ↔ Mem (r :: t) n ∧ r.f1 < n := by
  obtain ⟨h1, h2, h3, h4⟩ := h
  rw [mem_cons]
  constructor
  · intro hn; have := h4.low hn; exact ⟨.inr hn, by omega⟩
  · rintro ⟨⟨_, _, _, h6⟩ | h5, h7⟩
    · omega
    · exact h5
theorem head_mem {r : S28} {t : List S28} {last : Int} (hl : -1 ≤ last) (h : NormFrom last (r :: t)) {n : Int} (h5 : r.f0 ≤ n) (h6 : n ≤ r.f1) : Mem (r :: t) n := by
  obtain ⟨h1, h2, h3, h4⟩ := h
  exact (mem_cons _ _ _).2 (.inl ⟨by omega, by omega, h5, h6⟩)
theorem head_least {r : S28} {t : List S28} {last : Int} (h : NormFrom last (r :: t)) {n : Int} (hn : Mem (r :: t) n) : r.f0 ≤ n := by
  obtain ⟨h1, h2, h3, h4⟩ := h
  rcases (mem_cons r t n).1 hn with ⟨_, _, h5, h6⟩ | h5
  · exact h5
  · have := h4.low h5; omega
theorem head_hole {r : S28} {t : List S28} {last : Int} (h : NormFrom last (r :: t)) : ¬ Mem (r :: t) (r.f1 + 1) := by
  obtain ⟨h1, h2, h3, h4⟩ := h
  intro hn
  rcases (mem_cons r t _).1 hn with ⟨_, _, h5, h6⟩ | h5
  · omega
  · have := h4.low h5; omega
theorem NormFrom.unique {a : List S28} : ∀ {b : List S28} {last : Int}, -1 ≤ last → NormFrom last a → NormFrom last b → (∀ n, Mem a n ↔ Mem b n) → a = b := by
  induction a with
  | nil =>
    intro b last hl ha hb h
    cases b with
    | nil => rfl
    | cons r t => exact absurd ((h r.f0).2 (head_mem hl hb (Int.le_refl _) hb.2.1)) (mem_nil _)
  | cons r t ih =>
    intro b last hl ha hb h
    cases b with
    | nil => exact absurd ((h r.f0).1 (head_mem hl ha (Int.le_refl _) ha.2.1)) (mem_nil _)
    | cons s u =>
      have e1 : r.f0 = s.f0 := by
        have := head_least hb ((h r.f0).1 (head_mem hl ha (Int.le_refl _) ha.2.1))
        have := head_least ha ((h s.f0).2 (head_mem hl hb (Int.le_refl _) hb.2.1))
        omega
      have e2 : r.f1 = s.f1 := by
        have ha' := ha; have hb' := hb
        obtain ⟨a1, a2, a3, a4⟩ := ha'
        obtain ⟨b1, b2, b3, b4⟩ := hb'
        rcases Int.lt_trichotomy r.f1 s.f1 with hlt | he | hgt
        · exact absurd ((h (r.f1 + 1)).2 (head_mem hl hb (by omega) (by omega))) (head_hole ha)
        · exact he
        · exact absurd ((h (s.f1 + 1)).1 (head_mem hl ha (by omega) (by omega))) (head_hole hb)
      have e : r = s := by cases r; cases s; simp_all
      subst e
      have ht : t = u := ih (last := r.f1) (by have := ha.1; have := ha.2.1; omega) ha.2.2.2 hb.2.2.2 (fun n => by rw [mem_tail hl ha, mem_tail hl hb, h n])
      rw [ht]

/-- The list is in form, and means P. -/
def Rep (l : List S28) (P : Int → Prop) : Prop := Norm l ∧ ∀ n, Mem l n ↔ P n
theorem Rep.unique {a b : List S28} {P : Int → Prop} (ha : Rep a P) (hb : Rep b P) : a = b :=
  NormFrom.unique (by omega) ha.1 hb.1 (fun n => (ha.2 n).trans (hb.2 n).symm)
theorem Rep.of {l : List S28} {P Q : Int → Prop} (h : Rep l P) (e : ∀ n, P n ↔ Q n) : Rep l Q := ⟨h.1, fun n => (h.2 n).trans (e n)⟩
theorem Rep.self {l : List S28} (h : Norm l) : Rep l (Mem l) := ⟨h, fun _ => Iff.rfl⟩

/-! ### Building a list in form at its end -/
def hiOf (last : Int) (l : List S28) : Int := l.foldl (fun _ r => r.f1) last
theorem hiOf_nil (last : Int) : hiOf last [] = last := rfl
theorem hiOf_cons (last : Int) (r : S28) (t : List S28) : hiOf last (r :: t) = hiOf r.f1 t := rfl
theorem hiOf_snoc (last : Int) (l : List S28) (r : S28) : hiOf last (l ++ [r]) = r.f1 := by simp [hiOf]
theorem normFrom_snoc (l : List S28) (x : S28) : ∀ last, NormFrom last (l ++ [x]) ↔ NormFrom last l ∧ hiOf last l + 2 ≤ x.f0 ∧ x.f0 ≤ x.f1 ∧ x.f1 ≤ 1000000000 := by
  induction l with
  | nil => intro last; simp [NormFrom, hiOf]
  | cons r t ih => intro last; simp only [List.cons_append, NormFrom, ih, hiOf_cons]; constructor <;> (intro h; obtain ⟨h1, h2, h3, h4⟩ := h; simp_all)
theorem mem_snoc (l : List S28) (x : S28) (n : Int) : Mem (l ++ [x]) n ↔ Mem l n ∨ (1 ≤ n ∧ n ≤ 1000000000 ∧ x.f0 ≤ n ∧ n ≤ x.f1) := by
  rw [mem_append, mem_cons]; simp [mem_nil]
theorem NormFrom.high {l : List S28} : ∀ {last : Int}, NormFrom last l → ∀ {n}, Mem l n → n ≤ hiOf last l := by
  induction l with
  | nil => intro last _ n h; exact absurd h (mem_nil n)
  | cons r t ih =>
    intro last h n hn
    obtain ⟨h1, h2, h3, h4⟩ := h
    rw [hiOf_cons]
    rcases (mem_cons r t n).1 hn with ⟨_, _, h5, h6⟩ | h5
    · have : r.f1 ≤ hiOf r.f1 t := by
        clear ih hn
        have : ∀ (u : List S28) (c : Int), NormFrom c u → c ≤ hiOf c u := by
          intro u
          induction u with
          | nil => intro c _; exact Int.le_refl _
          | cons s v ihv => intro c hc; have := ihv s.f1 hc.2.2.2; rw [hiOf_cons]; have := hc.1; have := hc.2.1; omega
        exact this t r.f1 h4
      omega
    · exact ih h4 h5

/-! ### The program's union: clip, sort by Lo, add one by one -/
def Good (r : S28) : Prop := 1 ≤ r.f0 ∧ r.f0 ≤ r.f1 ∧ r.f1 ≤ 1000000000
def clipS (r : S28) : S28 := ⟨if r.f0 < 1 then 1 else r.f0, if 1000000000 < r.f1 then 1000000000 else r.f1⟩
def okB (r : S28) : Bool := decide ((clipS r).f0 ≤ (clipS r).f1)
def clips (l : List S28) : List S28 := (l.filter okB).map clipS
def addS (out : List S28) (r : S28) : List S28 :=
  match out.getLast? with
  | none => [r]
  | some x => if r.f0 ≤ x.f1 + 1 then out.dropLast ++ [⟨x.f0, if x.f1 < r.f1 then r.f1 else x.f1⟩] else out ++ [r]
def foldS (l : List S28) : List S28 := l.foldl addS []
theorem clips_good (l : List S28) : ∀ r ∈ clips l, Good r := by
  intro r hr
  simp only [clips, List.mem_map, List.mem_filter] at hr
  obtain ⟨a, ⟨_, h2⟩, rfl⟩ := hr
  simp only [okB, decide_eq_true_eq] at h2
  unfold Good clipS at *
  simp only at *
  split at h2 <;> split at h2 <;> simp_all <;> omega
theorem mem_clips (l : List S28) (n : Int) : Mem (clips l) n ↔ Mem l n := by
  induction l with
  | nil => simp [clips]
  | cons r t ih =>
    rw [mem_cons, ← ih]
    unfold clips
    rw [List.filter_cons]
    split
    · rename_i h
      rw [List.map_cons, mem_cons]
      refine or_congr ?_ Iff.rfl
      unfold clipS
      constructor <;> (rintro ⟨h1, h2, h3, h4⟩; simp only at *; refine ⟨h1, h2, ?_, ?_⟩ <;> (try split at h3) <;> (try split at h4) <;> (try split) <;> omega)
    · rename_i h
      constructor
      · exact .inr
      · rintro (⟨h1, h2, h3, h4⟩ | h)
        · exfalso
          apply h
          unfold okB clipS
          simp only [decide_eq_true_eq]
          split <;> split <;> omega
        · exact h
theorem addS_nil (r : S28) : addS [] r = [r] := rfl
theorem addS_snoc (o : List S28) (x r : S28) : addS (o ++ [x]) r = if r.f0 ≤ x.f1 + 1 then o ++ [⟨x.f0, if x.f1 < r.f1 then r.f1 else x.f1⟩] else (o ++ [x]) ++ [r] := by
  unfold addS
  simp
/-- The loop's invariant: what is out is in form, and its last run begins at or below what comes. -/
theorem foldS_from (l : List S28) : ∀ (o : List S28) (x : S28), NormFrom (-1) (o ++ [x]) → (∀ r ∈ l, Good r ∧ x.f0 ≤ r.f0) → l.Pairwise (fun a b => a.f0 ≤ b.f0) →
    Rep (l.foldl addS (o ++ [x])) (fun n => Mem (o ++ [x]) n ∨ Mem l n) := by
  induction l with
  | nil => intro o x h _ _; exact ⟨h, fun n => by simp [mem_nil]⟩
  | cons r t ih =>
    intro o x h hg hp
    obtain ⟨⟨g1, g2, g3⟩, g4⟩ := hg r (by simp)
    have hpt := (List.pairwise_cons.1 hp)
    obtain ⟨n1, n2, n3, n4⟩ := (normFrom_snoc o x _).1 h
    rw [List.foldl_cons, addS_snoc]
    split
    · rename_i hle
      have hn : NormFrom (-1) (o ++ [(⟨x.f0, if x.f1 < r.f1 then r.f1 else x.f1⟩ : S28)]) := by
        rw [normFrom_snoc]; refine ⟨n1, n2, ?_, ?_⟩ <;> (simp only; split <;> omega)
      refine (ih o _ hn (fun s hs => ⟨(hg s (by simp [hs])).1, (hg s (by simp [hs])).2⟩) hpt.2).of (fun n => ?_)
      rw [mem_snoc, mem_snoc, mem_cons]
      have : (1 ≤ n ∧ n ≤ 1000000000 ∧ x.f0 ≤ n ∧ n ≤ (if x.f1 < r.f1 then r.f1 else x.f1)) ↔ (1 ≤ n ∧ n ≤ 1000000000 ∧ x.f0 ≤ n ∧ n ≤ x.f1) ∨ (1 ≤ n ∧ n ≤ 1000000000 ∧ r.f0 ≤ n ∧ n ≤ r.f1) := by
        split <;> omega
      rw [this]
      constructor
      · rintro ((h | h | h) | h) <;> simp [h]
      · rintro ((h | h) | h | h) <;> simp [h]
    · rename_i hgt
      have hn : NormFrom (-1) ((o ++ [x]) ++ [r]) := by
        rw [normFrom_snoc, hiOf_snoc]; exact ⟨h, by omega, g2, g3⟩
      refine (ih (o ++ [x]) r hn (fun s hs => ⟨(hg s (by simp [hs])).1, hpt.1 s hs⟩) hpt.2).of (fun n => ?_)
      rw [mem_snoc (o ++ [x]) r, mem_cons]
      constructor
      · rintro ((h | h) | h) <;> simp [h]
      · rintro (h | h | h) <;> simp [h]
theorem foldS_rep (l : List S28) (hg : ∀ r ∈ l, Good r) (hp : l.Pairwise (fun a b => a.f0 ≤ b.f0)) : Rep (foldS l) (Mem l) := by
  cases l with
  | nil => exact ⟨trivial, fun n => Iff.rfl⟩
  | cons r t =>
    have hpt := (List.pairwise_cons.1 hp)
    obtain ⟨g1, g2, g3⟩ := hg r (by simp)
    refine (foldS_from t [] r ⟨by omega, g2, g3, trivial⟩ (fun s hs => ⟨hg s (by simp [hs]), hpt.1 s hs⟩) hpt.2).of (fun n => ?_)
    rw [List.nil_append, mem_cons, mem_cons]
    simp [mem_nil]
/-- The set's own form. -/
def canon (l : List S28) : List S28 := foldS ((clips l).mergeSort (fun a b => decide (a.f0 ≤ b.f0)))
theorem mem_perm {a b : List S28} (h : a.Perm b) (n : Int) : Mem a n ↔ Mem b n := by
  unfold Mem
  constructor <;> (rintro ⟨h1, h2, r, hr, h3⟩; refine ⟨h1, h2, r, ?_, h3⟩)
  · exact h.mem_iff.1 hr
  · exact h.mem_iff.2 hr
theorem canon_rep (l : List S28) : Rep (canon l) (Mem l) := by
  have hp := List.mergeSort_perm (clips l) (fun a b => decide (a.f0 ≤ b.f0))
  refine (foldS_rep _ (fun r hr => clips_good l r (hp.mem_iff.1 hr)) ?_).of (fun n => (mem_perm hp n).trans (mem_clips l n))
  have := List.pairwise_mergeSort (le := fun a b : S28 => decide (a.f0 ≤ b.f0)) (fun a b c h1 h2 => by simp at *; omega) (fun a b => by simp; omega) (clips l)
  exact this.imp (fun h => by simpa using h)
/-- Whatever sorted order of the clipped runs gives the same list. -/
theorem foldS_canon (l s : List S28) (hp : s.Perm (clips l)) (hs : s.Pairwise (fun a b => a.f0 ≤ b.f0)) : foldS s = canon l :=
  Rep.unique ((foldS_rep s (fun r hr => clips_good l r (hp.mem_iff.1 hr)) hs).of (fun n => (mem_perm hp n).trans (mem_clips l n))) (canon_rep l)
theorem canon_of {l : List S28} {P : Int → Prop} (h : Rep l P) (m : List S28) (e : ∀ n, Mem m n ↔ P n) : canon m = l := Rep.unique ((canon_rep m).of e) h
theorem canon_norm {l : List S28} (h : Norm l) : canon l = l := canon_of (Rep.self h) l (fun _ => Iff.rfl)

/-! ### The set by yes and no, and how many numbers it has -/
def inR (n : Int) (r : S28) : Bool := decide (r.f0 ≤ n) && decide (n ≤ r.f1)
def memB (l : List S28) (n : Int) : Bool := decide (1 ≤ n) && decide (n ≤ 1000000000) && l.any (inR n)
theorem memB_iff (l : List S28) (n : Int) : memB l n = true ↔ Mem l n := by
  unfold memB Mem inR
  simp only [Bool.and_eq_true, decide_eq_true_eq, List.any_eq_true]
  constructor
  · rintro ⟨⟨h1, h2⟩, r, hr, h3⟩; exact ⟨h1, h2, r, hr, h3⟩
  · rintro ⟨h1, h2, r, hr, h3⟩; exact ⟨⟨h1, h2⟩, r, hr, h3⟩
theorem memB_congr {a b : List S28} {n m : Int} (h : Mem a n ↔ Mem b m) : memB a n = memB b m := by
  rw [Bool.eq_iff_iff, memB_iff, memB_iff, h]
def card (P : Int → Bool) : Nat → Int
  | 0 => 0
  | n + 1 => card P n + (if P ((n : Int) + 1) = true then 1 else 0)
theorem card_nonneg (P : Int → Bool) : ∀ n, 0 ≤ card P n
  | 0 => by simp [card]
  | n + 1 => by have := card_nonneg P n; simp only [card]; split <;> omega
theorem card_le (P : Int → Bool) : ∀ n : Nat, card P n ≤ n
  | 0 => by simp [card]
  | n + 1 => by have := card_le P n; simp only [card]; split <;> omega
theorem card_congr {P Q : Int → Bool} (h : ∀ n, P n = Q n) : ∀ n, card P n = card Q n
  | 0 => rfl
  | n + 1 => by simp only [card]; rw [card_congr h n, h]
theorem card_mono (P : Int → Bool) {m : Nat} : ∀ {n : Nat}, m ≤ n → card P m ≤ card P n
  | 0, h => by have : m = 0 := by omega
               subst this; exact Int.le_refl _
  | n + 1, h => by
    rcases Nat.lt_or_ge n m with h1 | h1
    · have : m = n + 1 := by omega
      subst this; exact Int.le_refl _
    · have := card_mono P (m := m) (n := n) h1
      simp only [card]; split <;> omega
theorem card_or (P Q : Int → Bool) : ∀ n, card (fun x => P x || Q x) n + card (fun x => P x && Q x) n = card P n + card Q n
  | 0 => rfl
  | n + 1 => by
    have := card_or P Q n
    simp only [card]
    rcases Bool.eq_false_or_eq_true (P ((n : Int) + 1)) with e | e <;> rcases Bool.eq_false_or_eq_true (Q ((n : Int) + 1)) with e2 | e2 <;> simp [e, e2] <;> omega
theorem card_minus (P Q : Int → Bool) : ∀ n, card (fun x => P x && !Q x) n + card (fun x => P x && Q x) n = card P n
  | 0 => rfl
  | n + 1 => by
    have := card_minus P Q n
    simp only [card]
    rcases Bool.eq_false_or_eq_true (P ((n : Int) + 1)) with e | e <;> rcases Bool.eq_false_or_eq_true (Q ((n : Int) + 1)) with e2 | e2 <;> simp [e, e2] <;> omega
theorem card_zero {P : Int → Bool} : ∀ {n : Nat}, card P n = 0 → ∀ x : Int, 1 ≤ x → x ≤ n → P x = false
  | 0, _, x, h1, h2 => by omega
  | n + 1, h, x, h1, h2 => by
    have hn := card_nonneg P n
    simp only [card] at h
    rcases Int.lt_or_le (n : Int) x with h3 | h3
    · have : x = (n : Int) + 1 := by omega
      subst this
      cases hp : P ((n : Int) + 1) with
      | false => rfl
      | true => rw [if_pos hp] at h; omega
    · have h0 : card P n = 0 := by split at h <;> omega
      exact card_zero h0 x h1 h3
theorem card_none {P : Int → Bool} : ∀ {n : Nat}, (∀ x : Int, 1 ≤ x → x ≤ n → P x = false) → card P n = 0
  | 0, _ => rfl
  | n + 1, h => by
    simp only [card]
    rw [card_none (fun x h1 h2 => h x h1 (by omega)), h ((n : Int) + 1) (by omega) (by omega)]
    rfl
theorem card_one (x : Int) : ∀ {n : Nat}, 1 ≤ x → x ≤ n → card (fun y => decide (y = x)) n = 1
  | 0, h1, h2 => by omega
  | n + 1, h1, h2 => by
    simp only [card]
    rcases Int.lt_or_le (n : Int) x with h3 | h3
    · have : x = (n : Int) + 1 := by omega
      subst this
      rw [card_none (fun y _ h5 => by simp; omega)]
      simp
    · rw [card_one x h1 h3]
      simp; omega

/-- The runs' numbers up to n. -/
def rankL : List S28 → Int → Int
  | [], _ => 0
  | r :: t, n => (if r.f0 ≤ n then (if r.f1 ≤ n then r.f1 else n) - r.f0 + 1 else 0) + rankL t n
def sizeL : List S28 → Int
  | [] => 0
  | r :: t => r.f1 - r.f0 + 1 + sizeL t
theorem rankL_high {l : List S28} : ∀ {last : Int}, NormFrom last l → ∀ {n}, n < last + 2 → rankL l n = 0 := by
  induction l with
  | nil => intro _ _ _ _; rfl
  | cons r t ih =>
    intro last h n hn
    obtain ⟨h1, h2, h3, h4⟩ := h
    simp only [rankL]
    rw [if_neg (by omega), ih h4 (by omega)]; rfl
theorem rankL_step {l : List S28} : ∀ {last : Int}, -1 ≤ last → NormFrom last l → ∀ {n : Int}, 0 ≤ n → n < 1000000000 → rankL l (n + 1) = rankL l n + (if memB l (n + 1) = true then 1 else 0) := by
  induction l with
  | nil => intro last _ _ n h1 h2; simp [rankL, memB]
  | cons r t ih =>
    intro last hl h n hn1 hn2
    obtain ⟨h1, h2, h3, h4⟩ := h
    have ih' := ih (last := r.f1) (by omega) h4 hn1 hn2
    simp only [rankL]
    rw [ih']
    have hm : (memB (r :: t) (n + 1) = true) ↔ (r.f0 ≤ n + 1 ∧ n + 1 ≤ r.f1) ∨ memB t (n + 1) = true := by
      rw [memB_iff, memB_iff, mem_cons]
      constructor
      · rintro (⟨_, _, a, b⟩ | a)
        · exact .inl ⟨a, b⟩
        · exact .inr a
      · rintro (⟨a, b⟩ | a)
        · exact .inl ⟨by omega, by omega, a, b⟩
        · exact .inr a
    by_cases ht : memB t (n + 1) = true
    · have := h4.low ((memB_iff _ _).1 ht)
      rw [if_pos ht, if_pos (hm.2 (.inr ht)), if_pos (show r.f0 ≤ n + 1 by omega), if_pos (show r.f1 ≤ n + 1 by omega), if_pos (show r.f0 ≤ n by omega), if_pos (show r.f1 ≤ n by omega)]
      omega
    · rw [if_neg ht]
      by_cases hr : r.f0 ≤ n + 1 ∧ n + 1 ≤ r.f1
      · rw [if_pos (hm.2 (.inl hr)), if_pos hr.1]
        by_cases h5 : r.f0 ≤ n
        · rw [if_pos h5]; split <;> split <;> omega
        · rw [if_neg h5]; split <;> omega
      · rw [if_neg (fun hh => (hm.1 hh).elim hr ht)]
        split <;> split <;> (try split) <;> (try split) <;> omega
theorem rankL_card {l : List S28} (h : Norm l) (n : Nat) : (n : Int) ≤ 1000000000 → rankL l n = card (memB l) n := by
  induction n with
  | zero => intro _; rw [rankL_high h (n := ((0 : Nat) : Int)) (by omega), card]
  | succ n ih =>
    intro hn
    have h1 := rankL_step (by omega) h (n := (n : Int)) (by omega) (by omega)
    have h2 := ih (by omega)
    simp only [card]
    rw [show (((n + 1 : Nat)) : Int) = (n : Int) + 1 from by omega, h1, h2]
theorem rankL_size {l : List S28} : ∀ {last : Int}, NormFrom last l → ∀ {n : Int}, 1000000000 ≤ n → rankL l n = sizeL l := by
  induction l with
  | nil => intro _ _ _ _; rfl
  | cons r t ih =>
    intro last h n hn
    obtain ⟨h1, h2, h3, h4⟩ := h
    simp only [rankL, sizeL]
    rw [if_pos (by omega), if_pos (by omega), ih h4 hn]
theorem sizeL_card {l : List S28} (h : Norm l) : sizeL l = card (memB l) 1000000000 := by
  obtain ⟨N, hN⟩ : ∃ N : Nat, N = 1000000000 := ⟨_, rfl⟩
  have h1 := rankL_card h N (by omega)
  have h2 := rankL_size h (n := (N : Int)) (by omega)
  rw [← hN, ← h1, h2]
theorem NormFrom.len {l : List S28} : ∀ {last : Int}, last ≤ 1000000000 → NormFrom last l → 2 * (l.length : Int) ≤ 1000000000 - last := by
  induction l with
  | nil => intro last hl _; simp; omega
  | cons r t ih =>
    intro last hl h
    obtain ⟨h1, h2, h3, h4⟩ := h
    have := ih h3 h4
    simp only [List.length_cons]
    omega
theorem Norm.len {l : List S28} (h : Norm l) : l.length ≤ 500000000 := by have := NormFrom.len (by omega) h; omega
theorem sizeL_nonneg {l : List S28} (h : Norm l) : 0 ≤ sizeL l := by rw [sizeL_card h]; exact card_nonneg _ _
theorem sizeL_le {l : List S28} (h : Norm l) : sizeL l ≤ 1000000000 := by
  rw [sizeL_card h]
  obtain ⟨N, hN⟩ : ∃ N : Nat, N = 1000000000 := ⟨_, rfl⟩
  rw [← hN]
  have := card_le (memB l) N
  omega
theorem canon_norm' (l : List S28) : Norm (canon l) := (canon_rep l).1
theorem canon_mem (l : List S28) (n : Int) : Mem (canon l) n ↔ Mem l n := (canon_rep l).2 n
theorem canon_memB (l : List S28) (n : Int) : memB (canon l) n = memB l n := memB_congr (canon_mem l n)
theorem canon_congr {a b : List S28} (h : ∀ n, Mem a n ↔ Mem b n) : canon a = canon b := Rep.unique (canon_rep a) ((canon_rep b).of (fun n => (h n).symm))
theorem canon_inj {a b : List S28} (h : canon a = canon b) (n : Int) : Mem a n ↔ Mem b n := by rw [← canon_mem a, ← canon_mem b, h]
end Go.Proofs.Ytmlfbgkaondljaa.Pure
