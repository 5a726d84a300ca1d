/- slices.Clone of a slice of runs: a new slice with the same runs, for every slice that the call can read. -/
import Derived.Test.YteldhpneegccjaaGx0
import Derived.WalkSpells
namespace Go.Proofs.Yteldhpneegccjaa.G
open Go.RowKit Go.Proofs.YteldhpneegccjaaW.PrintWords Go.Proofs.YteldhpneegccjaaW.PrintLast Go.Proofs.YteldhpneegccjaaW.PrintMore

def runCells (l : List S26) : List Value := l.flatMap fun x => [.int .i64 x.f0, .int .i64 x.f1]
theorem runCells_length (l : List S26) : (runCells l).length = l.length * 2 := by
  induction l with
  | nil => rfl
  | cons x t ih => simp only [runCells, List.flatMap_cons, List.length_append, List.length_cons, List.length_nil] at *; omega
theorem runCells_get (l : List S26) : ∀ (j : Nat), (runCells l)[j]? = if j < l.length * 2 then some (if j % 2 = 0 then .int .i64 (rd_T26 l ((j / 2 : Nat) : Int)).f0 else .int .i64 (rd_T26 l ((j / 2 : Nat) : Int)).f1) else none := by
  induction l with
  | nil => intro j; simp [runCells]
  | cons x t ih =>
    intro j
    have e : runCells (x :: t) = .int .i64 x.f0 :: .int .i64 x.f1 :: runCells t := rfl
    rw [e]
    match j with
    | 0 => simp [rd_T26]
    | 1 => simp [rd_T26]; omega
    | j + 2 =>
      simp only [List.getElem?_cons_succ, ih, List.length_cons]
      have h1 : (j + 2) % 2 = j % 2 := by omega
      have h2 : (((j + 2) / 2 : Nat) : Int) = ((j / 2 : Nat) : Int) + 1 := by omega
      have h3 : rd_T26 (x :: t) (((j / 2 : Nat) : Int) + 1) = rd_T26 t ((j / 2 : Nat) : Int) := by
        unfold rd_T26
        rw [show (((j / 2 : Nat) : Int) + 1).toNat = (((j / 2 : Nat) : Int)).toNat + 1 from by omega]
        rfl
      rw [h1, h2, h3]
      by_cases h : j < t.length * 2
      · rw [if_pos h, if_pos (show j + 2 < (t.length + 1) * 2 by omega)]
      · rw [if_neg h, if_neg (show ¬ j + 2 < (t.length + 1) * 2 by omega)]
theorem run_reps (base : Nat) (ok : Nat → Prop) (W : World) (l : List S26) : Reps (k26.M W base ok) 2 l (runCells l) := by
  induction l with
  | nil => exact Reps.none _ _
  | cons x t ih => exact Reps.front (k26_mkM W base ok x) rfl ih rfl
theorem run_cells_of (w : World) (ad : Addr) (l : List S26) (h : k26.C w (some ad) l.length l) : ∀ j u, (runCells l)[j]? = some u → w.cell? (ad.add j) = some u := by
  intro j u hu
  rw [runCells_get] at hu
  by_cases hj : j < l.length * 2
  · rw [if_pos hj] at hu
    obtain ⟨ad', e, h0, h1⟩ := at_T26 h ((j / 2 : Nat) : Int) (by omega) (by omega)
    cases e
    by_cases hm : j % 2 = 0
    · rw [if_pos hm] at hu
      cases hu
      rw [show (((j / 2 : Nat) : Int)).toNat * 2 = j from by omega] at h0
      exact h0
    · rw [if_neg hm] at hu
      cases hu
      have := add_field ad ((((j / 2 : Nat) : Int)).toNat * 2) 1 (by omega)
      rw [← this, show (((j / 2 : Nat) : Int)).toNat * 2 + 1 = j from by omega] at h1
      exact h1
  · rw [if_neg hj] at hu; cases hu
theorem run_R (w : World) (base n : Nat) (v : Value) (l : List S26) (h : w.ownsRow base 26 2 v n (runCells l)) (hn : n = l.length) : k26.R 26 w base (fun _ => True) v l := by
  subst hn
  exact ⟨fun _ _ => trivial, runCells l, h, run_reps _ _ _ _⟩

def api_Run_64.f (l0 : List S26) : Option (List S26) := if l0.length ≤ 8796093022208 then some l0 else none
set_option maxHeartbeats 400000 in
theorem clone_some (ad : Addr) (c0 : Nat) (l0 : List S26) (w : World) (hr0 : Kd.C k26 w (some ad) l0.length l0) (hl : l0.length ≤ 8796093022208) :
    Calls Try.prog 64 #[.slice (some ad) l0.length c0] w fun e w' => ∃ v0_ : Value, e = .returned (v0_) ∧ Kd.R k26 26 w' w.heap.size (fun _ => True) v0_ l0 ∧ Below w.heap.size w w' := by
  obtain ⟨i0, hi, hz0, hz1, hz2⟩ := info_parts info26
  have A := Aside0.mk (run_cells_of w ad l0 hr0)
  have HL := Aside0.mk hl
  have q22 : ∀ (w : World) (a : Option Addr) (n c n' c' : Nat), (binOp .eql 23 (.slice a n c) (.slice none n' c')).run Try.prog w = .ok (.bool a.isNone) w := fun w a n c n' c' => Lib.run_eql_slice_nil w _ _ a n c n' c' Try.underlying23
  clear hr0 hl
  go_enter Try.func64, Try.ntmps64
  go_wp2_with (at_builtin; refine wpList_append_own _ rfl _ _ 23 rfl w.heap.size 26 i0 (.agg #[(.int .i64 0), (.int .i64 0)]) 2 16 Try.underlying23 hi hz0 hz1 hz2 rfl (by decide) _ _ _ rfl (World.ownsRow_made w #[] 0 (Nat.le_refl _) (Nat.zero_le _) (by simp)) ad l0.length c0 (runCells l0) rfl ?qc1 ?qc2 ?qc3 ?qc4 ?qc5 ?qc6 ?_)
  case qc1 => exact runCells_length l0
  case qc2 =>
    intro j u hj
    exact Lib.cell?_alloc_some _ (A.out j u hj)
  case qc3 =>
    intro u hu
    simp only [runCells, List.mem_flatMap, List.mem_cons, List.not_mem_nil, or_false] at hu
    obtain ⟨x, _, rfl | rfl⟩ := hu <;> rfl
  case qc4 => have := HL.out; unfold maxLen; omega
  case qc5 => have := HL.out; omega
  case qc6 => simp
  intro v' w1 hown hgrow hnil
  have HO := Aside0.mk hown
  have HG := Aside0.mk hgrow
  clear hown hgrow hnil q22 hi hz0 hz1 hz2
  go_wp2
  go_ret
  exact ⟨v', rfl, run_R _ _ _ _ _ HO.out rfl, ((Below.refl _ w).alloc (Nat.le_refl _) _).grown HG.out (by simp) (by intro k hk; simp [Value.ownBlock] at hk; omega)⟩
set_option maxHeartbeats 400000 in
theorem clone_none (n c0 : Nat) (w : World) :
    Calls Try.prog 64 #[.slice none n c0] w fun e w' => e = .returned (.slice none 0 0) ∧ w = w' := by
  have q22 : ∀ (w : World) (a : Option Addr) (n c n' c' : Nat), (binOp .eql 23 (.slice a n c) (.slice none n' c')).run Try.prog w = .ok (.bool a.isNone) w := fun w a n c n' c' => Lib.run_eql_slice_nil w _ _ a n c n' c' Try.underlying23
  go_enter Try.func64, Try.ntmps64
  go_wp2
  go_ret
  exact ⟨rfl, rfl⟩
theorem api_Run_64.calls (A0 : Option Addr) (c0 : Nat) (l0 : List S26) (r : List S26) (w : World) (hr0 : Kd.C k26 w A0 l0.length l0) (hc0 : l0.length ≤ c0) (h : api_Run_64.f l0 = some r) :
    Calls Try.prog 64 #[.slice A0 l0.length c0] w fun e w' => ∃ v0_ : Value, e = .returned (v0_) ∧ Kd.R k26 26 w' w.heap.size (fun _ => True) v0_ r ∧ Below w.heap.size w w' := by
  unfold api_Run_64.f at h
  by_cases hl : l0.length ≤ 8796093022208
  · rw [if_pos hl] at h
    simp only [Option.some.injEq] at h
    subst h
    cases A0 with
    | none =>
      have hz : l0 = [] := by
        cases l0 with
        | nil => rfl
        | cons x t =>
          obtain ⟨ad, e, _⟩ := at_T26 hr0 0 (by omega) (by simp only [List.length_cons]; omega)
          cases e
      subst hz
      exact (clone_none 0 c0 w).mono fun e w' ⟨he, hw⟩ => ⟨_, he, Kd.R_nil _ _ _ _ _, by subst hw; exact Below.refl _ _⟩
    | some ad => exact clone_some ad c0 l0 w hr0 hl
  · rw [if_neg hl] at h; cases h
end Go.Proofs.Yteldhpneegccjaa.G
