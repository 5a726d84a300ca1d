/- barrowlaw02.apart: what lies in memory while it runs: four lists of texts, and what is grown out of them. -/
import Derived.Test.YthkpmldjbogngaaDoorSto
import Derived.Test.YthkpmldjbogngaaDoorSx6
namespace Go.Proofs.YthkpmldjbogngaaDoor.S
open Go.RowKit Go.Proofs.YthkpmldjbogngaaDoorW.PrintWords Go.Proofs.YthkpmldjbogngaaDoorW.PrintLast Go.Proofs.YthkpmldjbogngaaDoorW.PrintMore
set_option linter.unusedVariables false
def dS (k : Nat) : ByteArray := ⟨#[48, (48 + k).toUInt8]⟩
def eS (k : Nat) : ByteArray := ⟨#[(48 + k).toUInt8]⟩
def mS (k : Nat) : ByteArray := (⟨#[103, 114, 111, 119, 110, 32]⟩ : ByteArray) ++ eS k
theorem dec1 : ∀ k : Nat, k < 4 → barrowlaw02_decimal.f 20 (k : Int) 1 = some (dS k)
  | 0, _ => by decide +kernel
  | 1, _ => by decide +kernel
  | 2, _ => by decide +kernel
  | 3, _ => by decide +kernel
  | n + 4, h => absurd h (by omega)
theorem dec0 : ∀ k : Nat, k < 4 → barrowlaw02_decimal.f 20 (k : Int) 0 = some (eS k)
  | 0, _ => by decide +kernel
  | 1, _ => by decide +kernel
  | 2, _ => by decide +kernel
  | 3, _ => by decide +kernel
  | n + 4, h => absurd h (by omega)
/-- What does not change: where the lists lie, how long they are. -/
structure ST (A : Nat → Option Addr) (n c C : Nat → Nat) (g3 : Nat) : Prop where
  sep : ∀ i j, i < 4 → j < 4 → i ≠ j → ∀ g, A i = some ⟨g, 0, none⟩ → A j ≠ some ⟨g, 0, none⟩
  cut : ∀ k, k < 3 → c k = n k
  c3 : c 3 = n 3 + 20
  C3 : C 3 = n 3 + 20
  hn : ∀ k, k < 4 → n k ≤ 8796093021952
  a3 : A 3 = some ⟨g3, 0, none⟩
structure AL (A : Nat → Option Addr) (n c C : Nat → Nat) (gl B0 : Nat) (w0 : World) (X : Nat → List ByteArray) (w : World) : Prop where
  bl : w.heap[gl]? = some (.cells #[.slice (A 0) (n 0) (c 0), .slice (A 1) (n 1) (c 1), .slice (A 2) (n 2) (c 2), .slice (A 3) (n 3) (c 3)] 22 (0, 0))
  row : ∀ k, k < 4 → w.ownsRow B0 9 1 (.slice (A k) (n k) (C k)) (n k) ((X k).map Value.string)
  bw : Below B0 w0 w
  hB : B0 ≤ w.heap.size
section
variable {A : Nat → Option Addr} {n c C : Nat → Nat} {gl B0 g3 : Nat} {w0 w w' : World} {X : Nat → List ByteArray}
theorem AL.cell (h : AL A n c C gl B0 w0 X w) : ∀ k : Nat, k < 4 → w.cell? ⟨gl, k, none⟩ = some (.slice (A k) (n k) (c k))
  | 0, _ => (blk_cell h.bl 0).trans rfl
  | 1, _ => (blk_cell h.bl 1).trans rfl
  | 2, _ => (blk_cell h.bl 2).trans rfl
  | 3, _ => (blk_cell h.bl 3).trans rfl
  | n + 4, h => absurd h (by omega)
theorem AL.len (h : AL A n c C gl B0 w0 X w) (k : Nat) (hk : k < 4) : (X k).length = n k := by
  have := (h.row k hk).1
  simpa using this
theorem row_form {w : World} {b : Nat} {A : Option Addr} {n C : Nat} {xs : List Value} (h : w.ownsRow b 9 1 (.slice A n C) n xs) (hn : 0 < n) : ∃ g, A = some ⟨g, 0, none⟩ := by
  rcases h.2 with ⟨_, h0⟩ | ⟨g, cap, cur, e, _⟩
  · omega
  · injection e with e; exact ⟨g, e⟩
theorem AL.at_ (h : AL A n c C gl B0 w0 X w) (k i : Nat) (hk : k < 4) (hi : i < n k) : ∃ g, A k = some ⟨g, 0, none⟩ ∧ w.cell? ⟨g, i, none⟩ = some (.string ((X k).getD i ByteArray.empty)) ∧ w.frozen? ⟨g, i, none⟩ = false := by
  obtain ⟨g, hg⟩ := row_form (h.row k hk) (by omega)
  have hr := h.row k hk
  rw [hg] at hr
  have hl := h.len k hk
  refine ⟨g, hg, ?_, hr.frozenAt i⟩
  rw [hr.cellAt i (by omega), List.getElem?_map, List.getElem?_eq_getElem (by omega), List.getD_eq_getElem?_getD, List.getElem?_eq_getElem (by omega)]
  rfl
theorem AL.below (h : AL A n c C gl B0 w0 X w) (hb : Below w.heap.size w w') : AL A n c C gl B0 w0 X w' :=
  ⟨blk_below h.bl hb, fun k hk => pw_own_below (h.row k hk) hb, h.bw.trans (hb.mono h.hB), Nat.le_trans h.hB hb.size⟩
theorem AL.grown (h : AL A n c C gl B0 w0 X w) {row : Option Nat} (hg : w.grownBy w' row) (h1 : some gl ≠ row) (h2 : ∀ k, k < 4 → ∀ g, A k = some ⟨g, 0, none⟩ → some g ≠ row) (h3 : ∀ b, row = some b → B0 ≤ b) : AL A n c C gl B0 w0 X w' :=
  ⟨blk_grown h.bl hg h1, fun k hk => (h.row k hk).kept hg (by
    rcases Nat.eq_zero_or_pos (n k) with h0 | h0
    · rcases (h.row k hk).2 with ⟨e, _⟩ | ⟨g, cap, cur, e, _⟩
      · left; rw [e]; rfl
      · right
        injection e with e
        rw [e]
        exact h2 k hk g e
    · obtain ⟨g, hg⟩ := row_form (h.row k hk) h0
      right; rw [hg]; exact h2 k hk g hg), h.bw.grown hg h.hB h3, Nat.le_trans h.hB hg.size⟩
theorem AL.store (hs : ST A n c C g3) (h : AL A n c C gl B0 w0 X w) (k i g : Nat) (s : ByteArray) (hk : k < 4) (hg : A k = some ⟨g, 0, none⟩) :
    AL A n c C gl B0 w0 (fun j => if j = k then (X k).set i s else X j) (w.setCell ⟨g, i, none⟩ (.string s)) := by
  have hr := h.row k hk
  rw [hg] at hr
  obtain ⟨h1, h2⟩ := hr.stored i (.string s)
  have ht := own_typed hr g rfl
  obtain ⟨cells, ht⟩ := ht
  have hne : gl ≠ g := blk_ne h.bl ht (by decide)
  have hge := own_base hr g rfl
  refine ⟨blk_far h.bl hne _, fun j hj => ?_, h.bw.grown h2 h.hB (fun b e => by cases e; exact hge), Nat.le_trans h.hB h2.size⟩
  by_cases e : j = k
  · subst e
    rw [if_pos rfl, hg, List.map_set]
    exact h1
  · rw [if_neg e]
    refine own_setCell (h.row j hj) (fun e2 => ?_) _
    cases hA : A j with
    | none => rw [hA] at e2; simp [Value.ownBlock] at e2
    | some ad =>
      rw [hA] at e2
      have hr2 := h.row j hj
      rw [hA] at hr2
      rcases hr2.2 with ⟨e3, _⟩ | ⟨g', cap, cur, e3, _⟩
      · cases e3
      · injection e3 with e3
        injection e3 with e3
        subst e3
        have e4 : g = g' := by simpa [Value.ownBlock] using e2
        subst e4
        exact hs.sep k j hk hj (fun e5 => e e5.symm) g hg hA
end
end Go.Proofs.YthkpmldjbogngaaDoor.S
