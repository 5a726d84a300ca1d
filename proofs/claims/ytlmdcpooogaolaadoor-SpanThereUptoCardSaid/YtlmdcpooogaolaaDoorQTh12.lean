import Derived.Test.YtlmdcpooogaolaaDoorQTh7
import Derived.WalkSpells
/- A row of runs by its cells. -/
namespace Go.Proofs.YtlmdcpooogaolaaDoor.G
open Go.RowKit Go.Proofs.YtlmdcpooogaolaaDoorW.PrintWords Go.Proofs.YtlmdcpooogaolaaDoorW.PrintLast Go.Proofs.YtlmdcpooogaolaaDoorW.PrintMore

def runCells (l : List S32) : List Value := l.flatMap fun x => [.int .i64 x.f0, .int .i64 x.f1]
theorem runCells_length (l : List S32) : (runCells l).length = l.length * 2 := by
  induction l with
  | nil => rfl
  | cons x t ih => simp only [runCells, List.flatMap_cons, List.length_append, List.length_cons, List.length_nil] at *; omega
theorem runCells_get (l : List S32) : ∀ (j : Nat), (runCells l)[j]? = if j < l.length * 2 then some (if j % 2 = 0 then .int .i64 (rd_T32 l ((j / 2 : Nat) : Int)).f0 else .int .i64 (rd_T32 l ((j / 2 : Nat) : Int)).f1) else none := by
  induction l with
  | nil => intro j; simp [runCells]
  | cons x t ih =>
    intro j
    have e : runCells (x :: t) = .int .i64 x.f0 :: .int .i64 x.f1 :: runCells t := rfl
    rw [e]
    match j with
    | 0 => simp [rd_T32]
    | 1 => simp [rd_T32]; omega
    | j + 2 =>
      simp only [List.getElem?_cons_succ, ih, List.length_cons]
      have h1 : (j + 2) % 2 = j % 2 := by omega
      have h2 : (((j + 2) / 2 : Nat) : Int) = ((j / 2 : Nat) : Int) + 1 := by omega
      have h3 : rd_T32 (x :: t) (((j / 2 : Nat) : Int) + 1) = rd_T32 t ((j / 2 : Nat) : Int) := by
        unfold rd_T32
        rw [show (((j / 2 : Nat) : Int) + 1).toNat = (((j / 2 : Nat) : Int)).toNat + 1 from by omega]
        rfl
      rw [h1, h2, h3]
      by_cases h : j < t.length * 2
      · rw [if_pos h, if_pos (show j + 2 < (t.length + 1) * 2 by omega)]
      · rw [if_neg h, if_neg (show ¬ j + 2 < (t.length + 1) * 2 by omega)]
theorem run_reps (base : Nat) (ok : Nat → Prop) (W : World) (l : List S32) : Reps (k32.M W base ok) 2 l (runCells l) := by
  induction l with
  | nil => exact Reps.none _ _
  | cons x t ih => exact Reps.front (k32_mkM W base ok x) rfl ih rfl
theorem run_cells_of (w : World) (ad : Addr) (l : List S32) (h : k32.C w (some ad) l.length l) : ∀ j u, (runCells l)[j]? = some u → w.cell? (ad.add j) = some u := by
  intro j u hu
  rw [runCells_get] at hu
  by_cases hj : j < l.length * 2
  · rw [if_pos hj] at hu
    obtain ⟨ad', e, h0, h1⟩ := at_T32 h ((j / 2 : Nat) : Int) (by omega) (by omega)
    cases e
    by_cases hm : j % 2 = 0
    · rw [if_pos hm] at hu
      cases hu
      rw [show (((j / 2 : Nat) : Int)).toNat * 2 = j from by omega] at h0
      exact h0
    · rw [if_neg hm] at hu
      cases hu
      have := add_field ad ((((j / 2 : Nat) : Int)).toNat * 2) 1 (by omega)
      rw [← this, show (((j / 2 : Nat) : Int)).toNat * 2 + 1 = j from by omega] at h1
      exact h1
  · rw [if_neg hj] at hu; cases hu
theorem run_R (w : World) (base n : Nat) (v : Value) (l : List S32) (h : w.ownsRow base 32 2 v n (runCells l)) (hn : n = l.length) : k32.R 32 w base (fun _ => True) v l := by
  subst hn
  exact ⟨fun _ _ => trivial, runCells l, h, run_reps _ _ _ _⟩

end Go.Proofs.YtlmdcpooogaolaaDoor.G
