/- The numbers of a list of runs, and what the reference's Walked answers. -/
import Derived.Test.YtcblhfnjcanliaaRfN
import Derived.Test.YtcblhfnjcanliaaGx5
namespace Go.Proofs.Ytcblhfnjcanliaa.Pure
open Go.RowKit Go.Proofs.Ytcblhfnjcanliaa.G Go.Proofs.YtcblhfnjcanliaaW.PrintWords Go.Proofs.YtcblhfnjcanliaaW.PrintLast Go.Proofs.YtcblhfnjcanliaaW.PrintMore
set_option linter.unusedVariables false
/-- So many numbers from lo on. -/
def rng (lo : Int) : Nat → List Int
  | 0 => []
  | n + 1 => lo :: rng (lo + 1) n
def cnt (r : S24) : Nat := (r.f1 - r.f0 + 1).toNat
/-- All numbers of the runs, run by run. -/
def numsOf : List S24 → List Int
  | [] => []
  | r :: t => rng r.f0 (cnt r) ++ numsOf t
theorem rng_len (n : Nat) : ∀ lo, (rng lo n).length = n := by
  induction n with
  | zero => intro lo; rfl
  | succ n ih => intro lo; simp [rng, ih]
theorem rng_snoc (n : Nat) : ∀ lo, rng lo (n + 1) = rng lo n ++ [lo + n] := by
  induction n with
  | zero => intro lo; simp [rng]
  | succ n ih =>
    intro lo
    rw [rng, ih (lo + 1), rng]
    simp only [List.cons_append, List.cons.injEq, true_and, List.append_cancel_left_eq]
    exact ⟨by push_cast; omega, trivial⟩
theorem rng_add (m : Nat) : ∀ (n : Nat) (lo : Int), rng lo (n + m) = rng lo n ++ rng (lo + n) m := by
  induction m with
  | zero => intro n lo; simp [rng]
  | succ m ih =>
    intro n lo
    rw [show n + (m + 1) = (n + 1) + m from by omega, ih (n + 1) lo, rng_snoc, List.append_assoc]
    congr 1
    simp only [rng, List.singleton_append, List.cons.injEq, true_and]
    congr 1
    push_cast
    omega
theorem numsOf_append (a b : List S24) : numsOf (a ++ b) = numsOf a ++ numsOf b := by
  induction a with
  | nil => rfl
  | cons r t ih => simp [numsOf, ih]
theorem numsOf_upto {l pre suf : List S24} {r : S24} (hl : l = pre ++ r :: suf) {n : Nat} (hn : n < cnt r) : numsOf pre ++ rng r.f0 n ++ [r.f0 + n] <+: numsOf l := by
  obtain ⟨m, hm⟩ : ∃ m, cnt r = n + 1 + m := ⟨cnt r - (n + 1), by omega⟩
  refine ⟨rng (r.f0 + (n + 1 : Nat)) m ++ numsOf suf, ?_⟩
  rw [hl, numsOf_append, numsOf, hm, rng_add m (n + 1), rng_snoc]
  simp
theorem numsOf_all {l pre suf : List S24} {r : S24} (hl : l = pre ++ r :: suf) : numsOf pre ++ rng r.f0 (cnt r) = numsOf (pre ++ [r]) := by
  rw [numsOf_append]; simp [numsOf]
/-- The runs of a list in form. -/
theorem normFrom_mem {l : List S24} : ∀ {last : Int}, -1 ≤ last → NormFrom last l → ∀ r ∈ l, 1 ≤ r.f0 ∧ r.f0 ≤ r.f1 ∧ r.f1 ≤ 1000000000 := by
  induction l with
  | nil => intro last _ _ r hr; cases hr
  | cons x t ih =>
    intro last h0 h r hr
    obtain ⟨h1, h2, h3, h4⟩ := h
    rcases List.mem_cons.1 hr with e | hr
    · subst e; exact ⟨by omega, by omega, by omega⟩
    · exact ih (by omega) h4 r hr
theorem take_app {a b : List Int} {m : Nat} (h : a.length = m) : (a ++ b).take m = a := by subst h; simp
theorem walked_l1 (row : List S24) (hr : row.length < 4611686018427387904) (m : Nat) (hm : m ≤ 1000) (pre suf : List S24) (r : S24) (hp : row = pre ++ r :: suf) (h1 : 1 ≤ r.f0) (h3 : r.f1 ≤ 1000000000)
    (hE : ∀ acc : List Int, acc.length ≤ m → Ev (fun k => barrowref01_Walked.l0 k (m : Int) acc row ((pre.length : Int) + 1)) ((acc ++ numsOf suf).take m)) :
    ∀ (d n : Nat) (acc : List Int), n + d = cnt r → acc.length ≤ m → Ev (fun k => barrowref01_Walked.l1 k (m : Int) acc row (pre.length : Int) (r.f0 + n)) ((acc ++ rng (r.f0 + n) d ++ numsOf suf).take m) := by
  have hget : rd_T24 row (pre.length : Int) = r := by rw [hp]; exact rdT pre suf r
  have hlt : (pre.length : Int) < (row.length : Int) := by rw [hp]; simp; omega
  intro d
  induction d with
  | zero =>
    intro n acc hd ha
    have hnn : ¬ r.f0 + n ≤ r.f1 := by unfold cnt at hd; omega
    refine Ev.step (fun k => ?_) (hE acc ha |> fun h => by simpa [rng] using h)
    simp only [barrowref01_Walked.l1]
    rw [if_pos (by omega), if_pos hlt, hget, if_neg hnn, w64 (by omega) (by omega)]
  | succ d ih =>
    intro n acc hd ha
    have hnn : r.f0 + n ≤ r.f1 := by unfold cnt at hd; omega
    by_cases hf : acc.length = m
    · have e : (acc ++ rng (r.f0 + n) (d + 1) ++ numsOf suf).take m = acc := by rw [List.append_assoc]; exact take_app hf
      rw [e]
      refine Ev.step (f := fun _ => some acc) (fun k => ?_) (Ev.now _)
      simp only [barrowref01_Walked.l1]
      rw [if_pos (by omega), if_pos hlt, hget, if_pos hnn, if_pos (by omega)]
    · have hI := ih (n + 1) (acc ++ [r.f0 + n]) (by omega) (by simp; omega)
      have e : acc ++ [r.f0 + (n : Int)] ++ rng (r.f0 + (n + 1 : Nat)) d = acc ++ rng (r.f0 + n) (d + 1) := by
        rw [rng, List.append_assoc]
        congr 1
        simp only [List.singleton_append, List.cons.injEq, true_and]
        congr 1
        push_cast
        omega
      rw [e] at hI
      refine Ev.step (fun k => ?_) hI
      simp only [barrowref01_Walked.l1]
      rw [if_pos (by omega), if_pos hlt, hget, if_pos hnn, if_neg (by omega), if_pos (by omega), w64 (by omega) (by omega)]
      congr 1
      push_cast
      omega
theorem walked_l0 (row : List S24) (hr : row.length < 4611686018427387904) (m : Nat) (hm : m ≤ 1000) (suf : List S24) : ∀ (pre : List S24), row = pre ++ suf → (∀ r ∈ suf, 1 ≤ r.f0 ∧ r.f0 ≤ r.f1 ∧ r.f1 ≤ 1000000000) →
    ∀ acc : List Int, acc.length ≤ m → Ev (fun k => barrowref01_Walked.l0 k (m : Int) acc row (pre.length : Int)) ((acc ++ numsOf suf).take m) := by
  induction suf with
  | nil =>
    intro pre hp _ acc ha
    refine Ev.step (f := fun _ => some ((acc ++ numsOf []).take m)) (fun k => ?_) (Ev.now _)
    simp only [barrowref01_Walked.l0]
    rw [if_neg (by rw [hp]; simp)]
    simp [numsOf, List.take_of_length_le ha]
  | cons r t ih =>
    intro pre hp hb acc ha
    obtain ⟨b1, b2, b3⟩ := hb r (by simp)
    have h0 : ∀ acc : List Int, acc.length ≤ m → Ev (fun k => barrowref01_Walked.l0 k (m : Int) acc row ((pre.length : Int) + 1)) ((acc ++ numsOf t).take m) := by
      intro acc ha
      have := ih (pre ++ [r]) (by rw [hp]; simp) (fun x hx => hb x (by simp [hx])) acc ha
      simpa using this
    have h1 := walked_l1 row hr m hm pre t r hp b1 b3 h0 (cnt r) 0 acc (by omega) ha
    have hget : rd_T24 row (pre.length : Int) = r := by rw [hp]; exact rdT pre t r
    rw [show acc ++ numsOf (r :: t) = acc ++ rng (r.f0 + (0 : Nat)) (cnt r) ++ numsOf t from by simp [numsOf]]
    refine Ev.step (fun k => ?_) h1
    simp only [barrowref01_Walked.l0]
    rw [if_pos (by rw [hp]; simp; omega), if_pos (by omega), hget]
    simp
theorem walked_ev (l : List S24) (h : l.length ≤ 2097152) (m : Nat) (hm : m ≤ 1000) : Ev (fun k => barrowref01_Walked.f k l (m : Int)) ((numsOf (canon l)).take m) := by
  have hn := canon_norm' l
  have := hn.len
  have h0 := walked_l0 (canon l) (by omega) m hm (canon l) [] rfl (normFrom_mem (by omega) hn) [] (by simp)
  unfold barrowref01_Walked.f
  exact Ev.bind (refNorm_ev l h) (by simpa using h0)
end Go.Proofs.Ytcblhfnjcanliaa.Pure
