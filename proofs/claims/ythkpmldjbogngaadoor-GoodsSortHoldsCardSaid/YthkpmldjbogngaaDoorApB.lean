/- barrowlaw02.apart: what has been grown; an append in place. -/
import Derived.Test.YthkpmldjbogngaaDoorApA
namespace Go.Proofs.YthkpmldjbogngaaDoor.S
open Go.RowKit Go.Proofs.YthkpmldjbogngaaDoorW.PrintWords Go.Proofs.YthkpmldjbogngaaDoorW.PrintLast Go.Proofs.YthkpmldjbogngaaDoorW.PrintMore
set_option linter.unusedVariables false
/-- A slice whose cells from n on all hold mk; where it lies in block g3, mk is m3. -/
def Gm (g3 : Nat) (m3 : Value) (w : World) (v : Value) (n : Nat) (mk : Value) : Prop :=
  ∃ (A : Option Addr) (len cap : Nat), v = .slice A len cap ∧ n ≤ len ∧ len ≤ 8796093022208 ∧
    (n < len → ∃ b cur, A = some ⟨b, 0, none⟩ ∧ w.heap[b]? = some (.cells cur 9 (0, 0)) ∧ (b = g3 → mk = m3) ∧ ∀ j, n ≤ j → j < len → cur[j]? = some mk)
section
variable {g3 n : Nat} {m3 mk v : Value} {w w' : World}
theorem Gm.below (h : Gm g3 m3 w v n mk) (hb : Below w.heap.size w w') : Gm g3 m3 w' v n mk := by
  obtain ⟨A, len, cap, e, h1, h2, h3⟩ := h
  refine ⟨A, len, cap, e, h1, h2, fun hl => ?_⟩
  obtain ⟨b, cur, e2, h4, h5, h6⟩ := h3 hl
  exact ⟨b, cur, e2, blk_below h4 hb, h5, h6⟩
theorem Gm.grown (h : Gm g3 m3 w v n mk) {row : Option Nat} (hg : w.grownBy w' row) (ht : ∀ b, row = some b → b < w.heap.size → ∃ cells, w.heap[b]? = some (.cells cells 22 (0, 0))) : Gm g3 m3 w' v n mk := by
  obtain ⟨A, len, cap, e, h1, h2, h3⟩ := h
  refine ⟨A, len, cap, e, h1, h2, fun hl => ?_⟩
  obtain ⟨b, cur, e2, h4, h5, h6⟩ := h3 hl
  refine ⟨b, cur, e2, blk_grown h4 hg (fun e3 => ?_), h5, h6⟩
  obtain ⟨cells, hc⟩ := ht b e3.symm (blk_lt h4)
  rw [hc] at h4
  simp at h4
theorem getD_app1 {l : List Value} {v : Value} {i : Nat} (h : i < l.length) : (l ++ [v]).getD i undef = l.getD i undef := by
  rw [List.getD_eq_getElem?_getD, List.getD_eq_getElem?_getD, List.getElem?_append_left h]
theorem getD_app2 {l : List Value} {v : Value} : (l ++ [v]).getD l.length undef = v := by
  rw [List.getD_eq_getElem?_getD, List.getElem?_append_right (Nat.le_refl _), Nat.sub_self]; rfl
theorem Gm.put3 {cur cur' : Array Value} (h : Gm g3 m3 w v n mk) (ho : ∀ b o, w.heap[b]? = some o → b ≠ g3 → w'.heap[b]? = some o) (h1 : w.heap[g3]? = some (.cells cur 9 (0, 0))) (h2 : w'.heap[g3]? = some (.cells cur' 9 (0, 0)))
    (hp : ∀ (p : Nat) (u : Value), cur[p]? = some u → cur'[p]? = some u ∨ cur'[p]? = some m3) : Gm g3 m3 w' v n mk := by
  obtain ⟨A, len, cap, e, k1, k2, k3⟩ := h
  refine ⟨A, len, cap, e, k1, k2, fun hl => ?_⟩
  obtain ⟨b, cu, e2, h4, h5, h6⟩ := k3 hl
  by_cases hb : b = g3
  · subst hb
    rw [h1] at h4
    simp only [Option.some.injEq, Obj.cells.injEq, and_true] at h4
    subst h4
    have hm := h5 rfl
    refine ⟨b, cur', e2, h2, h5, fun j j1 j2 => ?_⟩
    rcases hp j mk (h6 j j1 j2) with h | h
    · exact h
    · rw [hm]; exact h
  · exact ⟨b, cu, e2, ho b _ h4 hb, h5, h6⟩
/-- A row of the call's own that ends in marks. -/
theorem Gm.own {b0 m : Nat} {xs : List Value} (h : w.ownsRow b0 9 1 v (n + m) (xs ++ List.replicate m mk)) (hx : xs.length = n) (hm : n + m ≤ 8796093022208) (hne : ∀ b, v.ownBlock = some b → b ≠ g3) : Gm g3 m3 w v n mk := by
  rcases h.2 with ⟨e, h0⟩ | ⟨g, cap, cur, e, hb, hh, hc, hcm, hcs, ht⟩
  · exact ⟨none, 0, 0, e, by omega, by omega, fun h => absurd h (by omega)⟩
  · refine ⟨_, n + m, cap, e, by omega, hm, fun hl => ⟨g, cur, rfl, hh, fun e2 => absurd e2 (hne g (by rw [e]; rfl)), fun j j1 j2 => ?_⟩⟩
    have := congrArg (fun l => l[j]?) ht
    simp only [Nat.mul_one] at this
    rw [List.getElem?_take_of_lt j2, Array.getElem?_toList, List.getElem?_append_right (by omega), List.getElem?_replicate, if_pos (by omega)] at this
    exact this
theorem Gm.clip {A : Option Addr} {c : Nat} (hn : n ≤ 8796093022208) : Gm g3 m3 w (.slice A n c) n mk := ⟨A, n, c, rfl, Nat.le_refl _, hn, fun h => absurd h (Nat.lt_irrefl _)⟩
end
structure GS (A : Nat → Option Addr) (n c C : Nat → Nat) (gl B0 g3 : Nat) (w0 : World) (X : Nat → List ByteArray) (vG : Value) (vals : List Value) (w : World) : Prop where
  al : AL A n c C gl B0 w0 X w
  own : w.ownsRow (gl + 1) 22 1 vG vals.length vals
  gm : ∀ i, i < vals.length → Gm g3 (.string (mS 3)) w (vals.getD i undef) (n (i / 17)) (.string (mS (i / 17)))
section
variable {A : Nat → Option Addr} {n c C : Nat → Nat} {gl B0 g3 : Nat} {w0 w w' : World} {X : Nat → List ByteArray} {vG : Value} {vals : List Value}
theorem GS.below (h : GS A n c C gl B0 g3 w0 X vG vals w) (hb : Below w.heap.size w w') : GS A n c C gl B0 g3 w0 X vG vals w' :=
  ⟨h.al.below hb, pw_own_below h.own hb, fun i hi => (h.gm i hi).below hb⟩
theorem GS.push {vG' v : Value} (h : GS A n c C gl B0 g3 w0 X vG vals w) (hgl : B0 ≤ gl) (ho : w'.ownsRow (gl + 1) 22 1 vG' (vals.length + 1) (vals ++ [v])) (hg : w.grownBy w' vG.ownBlock)
    (hv : Gm g3 (.string (mS 3)) w v (n (vals.length / 17)) (.string (mS (vals.length / 17)))) : GS A n c C gl B0 g3 w0 X vG' (vals ++ [v]) w' := by
  have ht : ∀ b, vG.ownBlock = some b → b < w.heap.size → ∃ cells, w.heap[b]? = some (.cells cells 22 (0, 0)) := fun b e _ => own_typed h.own b e
  refine ⟨h.al.grown hg (fun e => ?_) (fun k hk g e e2 => ?_) (fun b e => ?_), by rw [List.length_append]; exact ho, fun i hi => ?_⟩
  · have := own_base h.own gl e.symm; omega
  · obtain ⟨cells, hc⟩ := own_typed h.own g e2.symm
    have hr := h.al.row k hk
    rw [e] at hr
    obtain ⟨cells2, hc2⟩ := own_typed hr g rfl
    rw [hc] at hc2
    simp at hc2
  · have := own_base h.own b e; omega
  · rw [List.length_append, List.length_singleton] at hi
    rcases Nat.lt_or_ge i vals.length with h1 | h1
    · rw [getD_app1 h1]
      exact (h.gm i h1).grown hg ht
    · obtain rfl : i = vals.length := by omega
      rw [getD_app2]
      exact hv.grown hg ht
/-- What lies behind the fourth list: marks as far as they go. -/
def In3 (g3 n3 j : Nat) (w : World) : Prop := ∃ cur, w.heap[g3]? = some (.cells cur 9 (0, 0)) ∧ cur.size = n3 + 20 ∧ ∀ p, n3 ≤ p → p < n3 + j → cur[p]? = some (.string (mS 3))
theorem GS.in0 (hs : ST A n c C g3) (h : GS A n c C gl B0 g3 w0 X vG vals w) : In3 g3 (n 3) 0 w := by
  have hr := h.al.row 3 (by omega)
  rw [hs.a3] at hr
  rcases hr.2 with ⟨e, _⟩ | ⟨g, cap, cur, e, hb, hh, hc, hcm, hcs, ht⟩
  · cases e
  · injection e with e e1 e2
    injection e with e
    injection e with e
    subst e
    rw [hs.C3] at e2
    exact ⟨cur, hh, by omega, fun p p1 p2 => absurd p2 (by omega)⟩
theorem In3.below {n3 j : Nat} (h : In3 g3 n3 j w) (hb : Below w.heap.size w w') : In3 g3 n3 j w' := by
  obtain ⟨cur, h1, h2⟩ := h
  exact ⟨cur, blk_below h1 hb, h2⟩
theorem In3.gm {n3 j cap : Nat} (h : In3 g3 n3 j w) (hm : n3 + j ≤ 8796093022208) : Gm g3 (.string (mS 3)) w (.slice (some ⟨g3, 0, none⟩) (n3 + j) cap) n3 (.string (mS 3)) := by
  obtain ⟨cur, h1, h2, h3⟩ := h
  exact ⟨_, _, _, rfl, by omega, hm, fun _ => ⟨g3, cur, rfl, h1, fun _ => rfl, fun j j1 j2 => h3 j j1 j2⟩⟩
/-- A mark more behind the fourth list. -/
theorem GS.put3 (hs : ST A n c C g3) (h : GS A n c C gl B0 g3 w0 X vG vals w) {j : Nat} (hj : j < 16) (hI : In3 g3 (n 3) j w) {cur : Array Value} (hcur : w.heap[g3]? = some (.cells cur 9 (0, 0))) :
    GS A n c C gl B0 g3 w0 X vG vals (w.setCell ⟨g3, n 3 + j, none⟩ (.string (mS 3))) ∧ In3 g3 (n 3) (j + 1) (w.setCell ⟨g3, n 3 + j, none⟩ (.string (mS 3))) := by
  obtain ⟨cur2, h1, h2, h3⟩ := hI
  rw [hcur] at h1
  simp only [Option.some.injEq, Obj.cells.injEq, and_true] at h1
  subst h1
  have hnew := blk_set hcur (n 3 + j) (.string (mS 3))
  have hr := h.al.row 3 (by omega)
  rw [hs.a3] at hr
  have hge := own_base hr g3 rfl
  have hoth : ∀ b o, w.heap[b]? = some o → b ≠ g3 → (w.setCell ⟨g3, n 3 + j, none⟩ (.string (mS 3))).heap[b]? = some o := fun b o hb hne => (Below.heap_setCell w ⟨g3, n 3 + j, none⟩ (.string (mS 3)) b hne).trans hb
  have hneg : gl ≠ g3 := blk_ne h.al.bl hcur (by decide)
  refine ⟨⟨⟨blk_far h.al.bl hneg _, fun k hk => ?_, h.al.bw.setCell hge _, by have := h.al.hB; simpa using this⟩, ?_, fun i hi => ?_⟩, ?_⟩
  · by_cases e : k = 3
    · subst e
      have hl := h.al.len 3 (by omega)
      have h0 := (hr.stored (n 3 + j) (.string (mS 3))).1
      rw [hs.a3]
      rw [List.set_eq_of_length_le (by rw [List.length_map]; omega)] at h0
      exact h0
    · refine own_setCell (h.al.row k hk) (fun e2 => ?_) _
      cases hA : A k with
      | none => rw [hA] at e2; simp [Value.ownBlock] at e2
      | some ad =>
        rw [hA] at e2
        have hr2 := h.al.row k hk
        rw [hA] at hr2
        rcases hr2.2 with ⟨e3, _⟩ | ⟨g', cap, cu, e3, _⟩
        · cases e3
        · injection e3 with e3
          injection e3 with e3
          subst e3
          have e4 : g3 = g' := by simpa [Value.ownBlock] using e2
          subst e4
          exact hs.sep 3 k (by omega) hk (fun e5 => e e5.symm) g3 hs.a3 hA
  · refine own_setCell h.own (fun e2 => ?_) _
    obtain ⟨cells, hc⟩ := own_typed h.own g3 e2.symm
    rw [hcur] at hc
    simp at hc
  · refine (h.gm i hi).put3 hoth hcur hnew (fun p u hp => ?_)
    by_cases e : p = n 3 + j
    · subst e
      right
      simp [show n 3 + j < cur.size by omega]
    · left
      rw [Array.getElem?_setIfInBounds_ne (by omega)]
      exact hp
  · refine ⟨_, hnew, by simpa using h2, fun p p1 p2 => ?_⟩
    by_cases e : p = n 3 + j
    · subst e
      simp [show n 3 + j < cur.size by omega]
    · rw [Array.getElem?_setIfInBounds_ne (by omega)]
      exact h3 p p1 (by omega)
end
/-- append in place: where there is room in a block whose cells are known. -/
theorem wpList_append_in {P : Program} {ops : Array Oper} {rest : List Oper} {o : Oper} {a : Act} {Q : Exit → Act → World → Prop} {w : World} (hgd : o.guard = none) (s x : Operand) (t : TypeId)
    (ho : o.op = .call { callee := .builtin .append, args := #[s, x], argTypes := #[t, t] }) (e : TypeId) (i : TypeInfo) (ht : P.underlying t = some (.slice e)) (hi : P.info? e = some i) (hsize : i.size = 1)
    {g sLen sCap : Nat} {cur : Array Value} (hg : w.heap[g]? = some (.cells cur e (0, 0))) (hs : a.eval s = .slice (some ⟨g, 0, none⟩) sLen sCap)
    {ad : Addr} {c : Nat} {u : Value} (hx : a.eval x = .slice (some ad) 1 c) (hnews : ∀ j v, [u][j]? = some v → w.cell? (ad.add j) = some v) (h1 : u.oneCell' = true) (hroom : sLen + 1 ≤ sCap) (hfit : sLen + 1 ≤ cur.size)
    (h : wpList P ops Q rest (a.put o.dst (.slice (some ⟨g, 0, none⟩) (sLen + 1) sCap)) (w.setCell ⟨g, sLen, none⟩ u)) : wpList P ops Q (o :: rest) a w := by
  refine wpList_plain hgd fun K hK => ?_
  have hr := run_append_room (P := P) w t o.type e i ht hi g sLen sCap cur hg ad 1 c [u] (by rw [hsize]; rfl) hnews (fun v hv => by rw [List.mem_singleton.1 hv]; exact h1) hroom (by rw [hsize]; simp; omega)
  have e1 : (cur.toList.take (sLen * i.size) ++ [u] ++ cur.toList.drop (sLen * i.size + [u].length)).toArray = cur.setIfInBounds sLen u := by
    rw [hsize, Nat.mul_one]
    apply Array.ext'
    rw [Array.toList_setIfInBounds, List.set_eq_take_append_cons_drop, if_pos (by rw [Array.length_toList]; omega)]
    simp
  rw [e1, ← setCell_eq_setRow w g sLen cur e (0, 0) u hg] at hr
  unfold Oper.wp execOp
  simp only [ho, resolve, invoke, builtin, Sem.run_bind, Sem.run_pure, Result.andThen_ok, List.map_toArray, List.map_cons, List.map_nil, hs, hx, hr]
  exact hK _ _ h
end Go.Proofs.YthkpmldjbogngaaDoor.S
