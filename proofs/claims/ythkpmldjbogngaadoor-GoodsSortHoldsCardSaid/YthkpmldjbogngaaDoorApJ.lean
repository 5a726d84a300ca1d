/- barrowlaw02.apart: what is grown out of one list, mark by mark. -/
import Derived.Test.YthkpmldjbogngaaDoorApB
namespace Go.Proofs.YthkpmldjbogngaaDoor.S
open Go.RowKit Go.Proofs.YthkpmldjbogngaaDoorW.PrintWords Go.Proofs.YthkpmldjbogngaaDoorW.PrintLast Go.Proofs.YthkpmldjbogngaaDoorW.PrintMore
set_option linter.unusedVariables false
/-- j marks behind list k; W0: the world in which it began. -/
def J5 (A : Nat → Option Addr) (n c C : Nat → Nat) (gl B0 g3 : Nat) (w0 : World) (Y : Nat → List ByteArray) (vG : Value) (vals : List Value) (W0 : World) (k j : Nat) (v : Value) (w2 : World) : Prop :=
  (k < 3 ∧ j = 0 ∧ v = .slice (A k) (n k) (n k) ∧ Below W0.heap.size W0 w2) ∨
  (k < 3 ∧ 0 < j ∧ w2.ownsRow W0.heap.size 9 1 v (n k + j) ((Y k).map Value.string ++ List.replicate j (.string (mS k))) ∧ Below W0.heap.size W0 w2) ∨
  (k = 3 ∧ v = .slice (some ⟨g3, 0, none⟩) (n 3 + j) (n 3 + 20) ∧ GS A n c C gl B0 g3 w0 Y vG vals w2 ∧ In3 g3 (n 3) j w2)
section
variable {A : Nat → Option Addr} {n c C : Nat → Nat} {gl B0 g3 : Nat} {w0 W0 w2 w' : World} {Y : Nat → List ByteArray} {vG : Value} {vals : List Value} {k j : Nat} {v : Value}
theorem J5.start (hs : ST A n c C g3) (h : GS A n c C gl B0 g3 w0 Y vG vals W0) (hk : k < 4) : J5 A n c C gl B0 g3 w0 Y vG vals W0 k 0 (.slice (A k) (n k) (c k)) W0 := by
  by_cases e : k = 3
  · subst e
    exact .inr (.inr ⟨rfl, by rw [hs.a3, hs.c3]; rfl, h, h.in0 hs⟩)
  · exact .inl ⟨by omega, rfl, by rw [hs.cut k (by omega)], Below.refl _ _⟩
theorem J5.gs (h : J5 A n c C gl B0 g3 w0 Y vG vals W0 k j v w2) (h0 : GS A n c C gl B0 g3 w0 Y vG vals W0) : GS A n c C gl B0 g3 w0 Y vG vals w2 := by
  rcases h with ⟨_, _, _, h⟩ | ⟨_, _, _, h⟩ | ⟨_, _, h, _⟩
  · exact h0.below h
  · exact h0.below h
  · exact h
theorem J5.gm (hs : ST A n c C g3) (h : J5 A n c C gl B0 g3 w0 Y vG vals W0 k j v w2) (h0 : GS A n c C gl B0 g3 w0 Y vG vals W0) (hk : k < 4) (hj0 : 0 < j) (hj : j ≤ 16) : Gm g3 (.string (mS 3)) w2 v (n k) (.string (mS k)) := by
  have hn := hs.hn k hk
  rcases h with ⟨_, e, _, _⟩ | ⟨_, _, ho, _⟩ | ⟨e, ev, hg, hI⟩
  · omega
  · refine Gm.own ho (by rw [List.length_map]; exact h0.al.len k hk) (by omega) (fun b hb e => ?_)
    have h1 := own_base ho b hb
    have hr := h0.al.row 3 (by omega)
    rw [hs.a3] at hr
    have h2 := own_lt hr g3 rfl
    omega
  · subst e
    rw [ev]
    exact hI.gm (by omega)
/-- The first mark behind a list whose capacity is cut: a new row. -/
theorem J5.next1 {o : Obj} (hb : Below W0.heap.size W0 w2) (hk : k < 3) (ho : w'.ownsRow (w2.alloc o).heap.size 9 1 v (n k + 1) ((Y k).map Value.string ++ [.string (mS k)])) (hg : (w2.alloc o).grownBy w' none) :
    J5 A n c C gl B0 g3 w0 Y vG vals W0 k (0 + 1) v w' := by
  have hb2 := below_alloc hb o
  exact .inr (.inl ⟨hk, by omega, own_weaken ho hb2.size, hb2.grown hg hb2.size (fun b e => by cases e)⟩)
theorem J5.next2 {o : Obj} {v' : Value} (hb : Below W0.heap.size W0 w2) (hk : k < 3) (h1 : w2.ownsRow W0.heap.size 9 1 v (n k + j) ((Y k).map Value.string ++ List.replicate j (.string (mS k))))
    (ho : w'.ownsRow W0.heap.size 9 1 v' (n k + j + 1) ((Y k).map Value.string ++ List.replicate j (.string (mS k)) ++ [.string (mS k)])) (hg : (w2.alloc o).grownBy w' v.ownBlock) :
    J5 A n c C gl B0 g3 w0 Y vG vals W0 k (j + 1) v' w' := by
  have hb2 := below_alloc hb o
  refine .inr (.inl ⟨hk, by omega, ?_, hb2.grown hg hb2.size (fun b e => own_base h1 b e)⟩)
  rw [List.append_assoc, ← List.replicate_succ'] at ho
  exact ho
theorem GS.put4 (hs : ST A n c C g3) {x : ByteArray} (hx : x = mS 3) (hg : GS A n c C gl B0 g3 w0 Y vG vals w2) (hI : In3 g3 (n 3) j w2) (hj : j < 16) (o : Obj) :
    GS A n c C gl B0 g3 w0 Y vG vals ((w2.alloc o).setCell ⟨g3, n 3 + j, none⟩ (.string x)) ∧ In3 g3 (n 3) (j + 1) ((w2.alloc o).setCell ⟨g3, n 3 + j, none⟩ (.string x)) := by
  subst hx
  have hb := below_alloc (Below.refl _ w2) o
  have hI2 := hI.below hb
  obtain ⟨cur, h1, _⟩ := hI.below hb
  exact (hg.below hb).put3 hs hj hI2 h1
/-- What the law on append asks of a list that was read. -/
theorem AL.olds {X : Nat → List ByteArray} {w : World} (h : AL A n c C gl B0 w0 X w) (hk : k < 4) : ∀ b, A k = some b → ∀ j u, ((X k).map Value.string)[j]? = some u → w.cell? (b.add j) = some u := by
  intro b hb i u hu
  have hl := h.len k hk
  have hi : i < n k := by
    have := (List.getElem?_eq_some_iff.1 hu).1
    rw [List.length_map] at this
    omega
  obtain ⟨g, hg, hc, _⟩ := h.at_ k i hk hi
  rw [hb] at hg
  injection hg with hg
  subst hg
  rw [add_plain, hc]
  rw [List.getElem?_map, List.getElem?_eq_getElem (by omega)] at hu
  rw [← hu, List.getD_eq_getElem?_getD, List.getElem?_eq_getElem (by omega)]
  rfl
theorem AL.none_ {X : Nat → List ByteArray} {w : World} (hs : ST A n c C g3) (h : AL A n c C gl B0 w0 X w) (hk : k < 4) (e : A k = none) : n k = 0 ∧ c k = 0 := by
  have hr := h.row k hk
  rw [e] at hr
  have h0 : n k = 0 := by
    rcases Nat.eq_zero_or_pos (n k) with h0 | h0
    · exact h0
    · obtain ⟨g, hg⟩ := row_form hr h0
      cases hg
  refine ⟨h0, ?_⟩
  by_cases e3 : k = 3
  · subst e3
    rw [hs.a3] at e; cases e
  · rw [hs.cut k (by omega)]; exact h0
end
theorem u32w : ∀ q : Nat, q < 4 → IntKind.u32.wrap (q : Int) = (q : Int)
  | 0, _ => rfl
  | 1, _ => rfl
  | 2, _ => rfl
  | 3, _ => rfl
  | n + 4, h => absurd h (by omega)
theorem vg_form {w : World} {b n : Nat} {v : Value} {vals : List Value} (h : w.ownsRow b 22 1 v n vals) (hn : 0 < n) : ∃ g c, v = .slice (some ⟨g, 0, none⟩) n c := by
  rcases h.2 with ⟨_, e⟩ | ⟨g, cap, cur, e, _⟩
  · omega
  · exact ⟨_, _, e⟩
theorem vg_cell {w : World} {b n g c : Nat} {vals : List Value} (h : w.ownsRow b 22 1 (.slice (some ⟨g, 0, none⟩) n c) n vals) {i : Nat} (hi : i < n) : w.cell? ⟨g, i, none⟩ = some (vals.getD i undef) := by
  have := h.1
  rw [h.cellAt i (by omega), List.getD_eq_getElem?_getD, List.getElem?_eq_getElem (by omega)]
  rfl
theorem Gm.len {g3 n : Nat} {m3 mk v : Value} {w : World} (h : Gm g3 m3 w v n mk) : ∃ A len cap, v = .slice A len cap ∧ n ≤ len ∧ len ≤ 8796093022208 := by
  obtain ⟨A, len, cap, e, h1, h2, _⟩ := h
  exact ⟨A, len, cap, e, h1, h2⟩
theorem Gm.at_ {g3 n len cap j : Nat} {m3 mk : Value} {A : Option Addr} {w : World} (h : Gm g3 m3 w (.slice A len cap) n mk) (h1 : n ≤ j) (h2 : j < len) : ∃ b, A = some ⟨b, 0, none⟩ ∧ w.cell? ⟨b, j, none⟩ = some mk := by
  obtain ⟨A', len', cap', e, _, _, h3⟩ := h
  injection e with e1 e2 e3
  subst e1; subst e2
  obtain ⟨b, cur, e4, hh, _, hc⟩ := h3 (by omega)
  exact ⟨b, e4, (blk_cell hh j).trans (hc j h1 h2)⟩
/-- make of a row of one-cell elements. -/
theorem wpList_make1 {P : Program} {ops : Array Oper} {rest : List Oper} {o : Oper} {a : Act} {Q : Exit → Act → World → Prop} {w : World} (hgd : o.guard = none) (t : TypeId) (x y : Operand) (ho : o.op = .makeSlice t x y)
    (e : TypeId) (i : TypeInfo) (z : Value) (ht : P.underlying t = some (.slice e)) (hi : P.info? e = some i) (hz : i.zero = some z) (hsize : i.size = 1) (hzc : z.cells = #[z]) (n : Nat) (hx : a.eval x = .int .i64 (n : Int)) (hy : a.eval y = .int .i64 (n : Int))
    (hbytes : i.bytes * n ≤ 281474976710656) (h63 : n ≤ maxLen)
    (h : ∀ w', w'.ownsRow w.heap.size e 1 (.slice (some ⟨w.heap.size, 0, none⟩) n n) n (List.replicate n z) → w.grownBy w' none → wpList P ops Q rest (a.put o.dst (.slice (some ⟨w.heap.size, 0, none⟩) n n)) w') : wpList P ops Q (o :: rest) a w := by
  refine wpList_plain hgd fun K hK => ?_
  obtain ⟨w', hr, h2, h3⟩ := run_make_full (P := P) w w.heap.size t e i z 1 ht hi hz hsize .i64 .i64 n hbytes h63 (Nat.le_refl _)
  rw [hzc, Nat.mul_one, toList_madeCells_one] at h2
  unfold Oper.wp execOp
  simp only [ho, Sem.run_bind, Sem.run_pure, Result.andThen_ok, hx, hy, hr]
  exact hK _ _ (h w' h2 h3)
end Go.Proofs.YthkpmldjbogngaaDoor.S
