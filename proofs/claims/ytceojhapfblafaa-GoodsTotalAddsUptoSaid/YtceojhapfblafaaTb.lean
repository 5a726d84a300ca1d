/- Rows of numbers by their cells: append in place with what lies behind; append onto a row of the call's own, whatever is appended. -/
import Derived.Test.YtceojhapfblafaaGx1
import Derived.OwnWalk
import Derived.Laws.OwnMore
import Derived.WalkKit
namespace Go.Proofs.Ytceojhapfblafaa.G
open Go.RowKit Go.Proofs.YtceojhapfblafaaW.PrintWords Go.Proofs.YtceojhapfblafaaW.PrintLast Go.Proofs.YtceojhapfblafaaW.PrintMore
variable {P : Program} {ops : Array Oper} {rest : List Oper} {o : Oper} {a : Act} {Q : Exit → Act → World → Prop}
def iv (l : List Int) : List Value := l.map (Value.int .i64)
theorem iv_one (l : List Int) : ∀ u ∈ iv l, u.oneCell' = true := by
  intro u hu
  obtain ⟨x, _, rfl⟩ := List.mem_map.1 hu
  rfl
theorem cells_of_C {w : World} {ad : Addr} {l : List Int} (h : Kd.C (Kd.int .i64) w (some ad) l.length l) : ∀ j u, (iv l)[j]? = some u → w.cell? (ad.add j) = some u := by
  intro j u hu
  unfold iv at hu
  rw [List.getElem?_map] at hu
  obtain ⟨x, hx, rfl⟩ := Option.map_eq_some_iff.1 hu
  have hj := (List.getElem?_eq_some_iff.1 hx).1
  obtain ⟨ad', e, hc⟩ := Kd.at_int h (j : Int) (by omega) (by omega)
  cases e
  rw [Int.toNat_natCast] at hc
  rw [hc]
  unfold rd
  rw [Int.toNat_natCast, List.getD_eq_getElem?_getD, hx]
  rfl
theorem C_of_iv {w : World} {ad : Addr} {l : List Int} (hl : l.length ≤ 9223372036854775807) (h : ∀ j u, (iv l)[j]? = some u → w.cell? (ad.add j) = some u) : Kd.C (Kd.int .i64) w (some ad) l.length l := by
  refine ⟨rfl, hl, fun _ => ⟨ad, rfl, fun j p hj => ⟨[.int .i64 p], rfl, rfl, fun i u hu => ?_⟩⟩⟩
  match i with
  | 0 =>
    simp only [List.getElem?_cons_zero, Option.some.injEq] at hu
    subst hu
    have := h j (.int .i64 p) (by unfold iv; rw [List.getElem?_map, hj]; rfl)
    show w.cell? (ad.add (j * 1 + 0)) = _
    rw [Nat.mul_one, Nat.add_zero]
    exact this
  | n + 1 => simp at hu
theorem none_len {w : World} {l : List Int} {n : Nat} (h : Kd.C (Kd.int .i64) w none n l) : l = [] := by
  cases l with
  | nil => rfl
  | cons x t =>
    have hn : n = (x :: t).length := h.1.symm
    obtain ⟨ad, e, _⟩ := Kd.at_int h 0 (by omega) (by rw [hn]; simp only [List.length_cons]; omega)
    cases e
/-- append in place: the block's cells behind it. -/
theorem append_room (w : World) (hg : o.guard = none) (s x : Operand) (t : TypeId) (hop : o.op = Op.call { callee := Callee.builtin Builtin.append, args := #[s, x], argTypes := #[t, t] })
    (e : TypeId) (i : TypeInfo) (h1 : P.underlying t = some (.slice e)) (h2 : P.info? e = some i) (h4 : i.size = 1)
    (g k cap : Nat) (cur : Array Value) (hs : a.eval s = .slice (some ⟨g, 0, none⟩) k cap) (hgc : w.heap[g]? = some (.cells cur e (0, 0))) (hcap : cur.size = cap) (A0 : Option Addr) (l : List Int) (n c : Nat) (hn : l.length = n)
    (hx : a.eval x = .slice A0 n c) (hA : Kd.C (Kd.int .i64) w A0 n l) (hc0 : A0 = none → c = 0) (b1 : k + n ≤ cap)
    (hK : ∀ w', w'.heap[g]? = some (.cells (cur.toList.take k ++ (iv l ++ cur.toList.drop (k + n))).toArray e (0, 0)) → w.grownBy w' (some g) → w'.heap.size = w.heap.size →
      wpList P ops Q rest (a.put o.dst (.slice (some ⟨g, 0, none⟩) (k + n) cap)) w') :
    wpList P ops Q (o :: rest) a w := by
  subst hn
  have hl : (iv l).length = l.length := by simp [iv]
  have hcl : g < w.heap.size := (Array.getElem?_eq_some_iff.1 hgc).1
  cases A0 with
  | some ad =>
    refine wpList_plain hg fun K hK' => ?_
    have hr := run_append_room (P := P) w t o.type e i h1 h2 g k cap cur hgc ad l.length c (iv l) (by simp [iv, h4]) (cells_of_C hA) (iv_one l) b1 (by rw [h4]; simp [iv]; omega)
    rw [h4, Nat.mul_one, hl, List.append_assoc] at hr
    unfold Oper.wp
    simp only [execOp, hop, resolve, invoke, builtin]
    simp [hs, hx, hr, Result.andThen]
    exact hK' _ _ (hK _ (setRow_heap w g cur _ e _ hgc) ⟨rfl, rfl, rfl, by simp, fun k _ hk => setRow_other w g k _ (fun e => hk (by simp [e]))⟩ (by simp))
  | none =>
    obtain rfl := none_len hA
    obtain rfl := hc0 rfl
    refine wpList_plain hg fun K hK' => ?_
    have hk : k ≤ cap := by simpa using b1
    have hrun : (Builtin.append_ #[t, t] o.type #[.slice (some ⟨g, 0, none⟩) k cap, .slice none 0 0]).run P w = .ok (.slice (some ⟨g, 0, none⟩) k cap) w := by
      simp [Builtin.append_, run_underlying h1, sizeOf, typeInfo, h2, Builtin.lenOf, Builtin.firstCells, hk, storeCells]
    have hself : w.heap[g]? = some (.cells (cur.toList.take k ++ (iv [] ++ cur.toList.drop (k + 0))).toArray e (0, 0)) := by
      simp only [iv, List.map_nil, List.nil_append, Nat.add_zero, List.take_append_drop, Array.toArray_toList]
      exact hgc
    unfold Oper.wp
    simp [execOp, hop, resolve, invoke, builtin, hs, hx, hrun, Result.andThen]
    exact hK' _ _ (hK w hself (World.grownBy.refl _ _) rfl)
/-- append onto a row of the call's own. -/
theorem append_own_any (w : World) (hg : o.guard = none) (s x : Operand) (t : TypeId) (hop : o.op = Op.call { callee := Callee.builtin Builtin.append, args := #[s, x], argTypes := #[t, t] })
    (base e : Nat) (i : TypeInfo) (z : Value) (h1 : P.underlying t = some (.slice e)) (h2 : P.info? e = some i) (h3 : i.zero = some z) (h4 : i.size = 1) (h5 : i.bytes = 8) (h6 : z.cells.size = 1)
    (v : Value) (k : Nat) (xs : List Value) (hs : a.eval s = v) (hown : w.ownsRow base e 1 v k xs) (A0 : Option Addr) (l : List Int) (n c : Nat) (hn : l.length = n) (hx : a.eval x = .slice A0 n c) (hA : Kd.C (Kd.int .i64) w A0 n l) (hc0 : A0 = none → c = 0)
    (b1 : k + n ≤ maxLen) (b2 : (k + n) * 8 ≤ 140737488355328) (b3 : base ≤ w.heap.size)
    (hK : ∀ v' w', w'.ownsRow base e 1 v' (k + n) (xs ++ iv l) → w.grownBy w' v.ownBlock → wpList P ops Q rest (a.put o.dst v') w') : wpList P ops Q (o :: rest) a w := by
  subst hn
  cases A0 with
  | some ad => exact wpList_append_own w hg s x t hop base e i z 1 8 h1 h2 h3 h4 h5 h6 (by decide) v k xs hs hown ad l.length c (iv l) hx (by simp [iv]) (cells_of_C hA) (iv_one l) b1 b2 b3 (fun v' w' r1 r2 _ => hK v' w' r1 r2)
  | none =>
    obtain rfl := none_len hA
    obtain rfl := hc0 rfl
    refine wpList_plain hg fun K hK' => ?_
    have hrun := run_append_owned_none (P := P) w base t o.type e i 1 h1 h2 v k xs hown
    unfold Oper.wp
    simp [execOp, hop, resolve, invoke, builtin, hs, hx, hrun, Result.andThen]
    exact hK' _ _ (hK v w (by simpa [iv] using hown) (World.grownBy.refl _ _))
/-- A row of the call's own reads as its list. -/
theorem own_reads {w : World} {base : Nat} {v : Value} {n : Nat} {l : List Int} (hn : l.length = n) (hl : n ≤ 9223372036854775807) (h : w.ownsRow base 3 1 v n (iv l)) :
    ∃ A c, v = .slice A n c ∧ n ≤ c ∧ Kd.C (Kd.int .i64) w A n l := by
  subst hn
  rcases h.2 with ⟨rfl, h0⟩ | ⟨g, cap, cur, rfl, hbg, hg, hnc, hcm, hcs, htake⟩
  · have hz : l = [] := List.eq_nil_of_length_eq_zero h0
    subst hz
    exact ⟨none, 0, rfl, Nat.le_refl _, ⟨rfl, by decide, fun h => absurd h (by decide)⟩⟩
  · refine ⟨_, cap, rfl, hnc, C_of_iv hl (fun j u hu => ?_)⟩
    have hj : j < l.length := by have := (List.getElem?_eq_some_iff.1 hu).1; simpa [iv] using this
    have := h.cellAt j (by omega)
    rw [hu] at this
    have e : (⟨g, 0, none⟩ : Addr).add j = ⟨g, j, none⟩ := by unfold Addr.add; split <;> simp_all
    rw [e]; exact this
/-- Behind 'append([]int{}, a...)'. -/
theorem own_step {W w w' : World} {v' : Value} {n : Nat} {l : List Int} {g : Nat} {ob : Obj} (hA : Below W.heap.size W w) (hg : w.heap[g]? = some ob) (hn : l.length = n) (hs : n ≤ 9223372036854775807)
    (ho : w'.ownsRow W.heap.size 3 1 v' (0 + n) ([] ++ iv l)) (hgr : (w.alloc (.cells #[] 3)).grownBy w' (Value.slice (some ⟨w.heap.size, 0, none⟩) 0 0).ownBlock) :
    ∃ A c, v' = .slice A n c ∧ n ≤ c ∧ Kd.C (Kd.int .i64) w' A n l ∧ Below w.heap.size w w' ∧ Below W.heap.size W w' ∧ w'.heap[g]? = some ob := by
  rw [Nat.zero_add, List.nil_append] at ho
  obtain ⟨A, c, h1, h2, h3⟩ := own_reads hn hs ho
  have hb : Below w.heap.size w w' := ((Below.refl _ w).alloc (Nat.le_refl _) _).grown hgr (by simp) (fun k e => by simp [Value.ownBlock] at e; omega)
  exact ⟨A, c, h1, h2, h3, hb, hA.trans (hb.mono hA.size), (hb.block g (Array.getElem?_eq_some_iff.1 hg).1).trans hg⟩
/-- The block that holds both lists and what is behind them. -/
def allC (la lb : List Int) : Array Value := (iv la ++ (iv lb ++ List.replicate 9 (Value.int .i64 0))).toArray
theorem all_cells (la lb : List Int) (na nb : Nat) (ha : la.length = na) (hb : lb.length = nb) :
    (((((Array.replicate (na + nb + 9) (Value.int .i64 0)).toList.take 0 ++ (iv la ++ (Array.replicate (na + nb + 9) (Value.int .i64 0)).toList.drop (0 + na))).toArray).toList.take na) ++ (iv lb ++ ((((Array.replicate (na + nb + 9) (Value.int .i64 0)).toList.take 0 ++ (iv la ++ (Array.replicate (na + nb + 9) (Value.int .i64 0)).toList.drop (0 + na))).toArray).toList.drop (na + nb)))).toArray = allC la lb := by
  subst ha; subst hb
  unfold allC
  have hl : (iv la).length = la.length := by simp [iv]
  simp [hl, List.drop_append]
  have h1 : la.length + lb.length + 9 - la.length - lb.length = 9 := by omega
  have h2 : List.drop (la.length + lb.length) (iv la) = [] := List.drop_eq_nil_of_le (by omega)
  rw [h1, h2]
  rfl
theorem all_at (la lb : List Int) {w : World} {g : Nat} (h : w.heap[g]? = some (.cells (allC la lb) 3 (0, 0))) (j : Nat) (x : Int) (hx : (la ++ lb ++ List.replicate 9 0)[j]? = some x) : w.cell? ⟨g, j, none⟩ = some (.int .i64 x) := by
  have e : allC la lb = (iv (la ++ lb ++ List.replicate 9 0)).toArray := by simp [allC, iv]
  rw [e] at h
  have h2 : (iv (la ++ lb ++ List.replicate 9 0))[j]? = some (.int .i64 x) := by
    unfold iv
    rw [List.getElem?_map, hx]; rfl
  simp only [World.cell?, h]
  simpa using h2
theorem all_C {la lb : List Int} {na nb : Nat} (ha : la.length = na) (hb : lb.length = nb) (hl : na + nb ≤ 9223372036854775807) {w : World} {g : Nat} (h : w.heap[g]? = some (.cells (allC la lb) 3 (0, 0))) :
    Kd.C (Kd.int .i64) w (some ⟨g, 0, none⟩) (na + nb) (la ++ lb) := by
  have e : (la ++ lb).length = na + nb := by rw [List.length_append, ha, hb]
  rw [← e]
  refine C_of_iv (by rw [e]; exact hl) (fun j u hu => ?_)
  unfold iv at hu
  rw [List.getElem?_map] at hu
  obtain ⟨x, hx, rfl⟩ := Option.map_eq_some_iff.1 hu
  have hj := (List.getElem?_eq_some_iff.1 hx).1
  have := all_at la lb h j x (by rw [List.getElem?_append_left hj]; exact hx)
  have e2 : (⟨g, 0, none⟩ : Addr).add j = ⟨g, j, none⟩ := by unfold Addr.add; split <;> simp_all
  rw [e2]; exact this
/-! ### What Total answers -/
def badQ (q : Int) : Bool := decide (q < 1) || decide (1000000 < q)
def sumL : List Int → Int
  | [] => 0
  | q :: t => q + sumL t
def totL (l : List Int) : Int × Int := if l.any badQ = true then (0, 6) else if sumL l > 1000000 then (0, 13) else (sumL l, 0)
theorem total_l0 (l : List Int) (hl : l.length ≤ 4000000) (pre suf : List Int) (hp : l = pre ++ suf) : ∀ (x : Int), 0 ≤ x → x ≤ 1000000 * pre.length →
    ∃ k, goods_Total.l0 k x l (l.length : Int) (pre.length : Int) = some (if suf.any badQ = true then (0, 6) else if x + sumL suf > 1000000 then (0, 13) else (x + sumL suf, 0)) := by
  induction suf generalizing pre with
  | nil =>
    intro x h0 h1
    refine ⟨1, ?_⟩
    simp only [goods_Total.l0]
    rw [if_neg (by rw [hp]; simp), show ([] : List Int).any badQ = false from rfl]
    simp only [sumL, Int.add_zero, Bool.false_eq_true, if_false]
    split <;> rfl
  | cons q t ih =>
    intro x h0 h1
    have hl2 : l.length = pre.length + (t.length + 1) := by rw [hp]; simp
    have hlt : (pre.length : Int) < (l.length : Int) := by omega
    have hget : rd l (pre.length : Int) = q := by
      rw [hp]; unfold rd
      rw [Int.toNat_natCast, List.getD_eq_getElem?_getD, List.getElem?_append_right (Nat.le_refl _), Nat.sub_self]; rfl
    by_cases hb : q < 1
    · have hbad : badQ q = true := by unfold badQ; simp [hb]
      refine ⟨1, ?_⟩
      simp only [goods_Total.l0]
      rw [if_pos hlt, if_pos (by omega), if_pos hlt, hget, if_pos hb, if_pos (by simp [hbad])]
    · by_cases hb2 : q > 1000000
      · have hbad : badQ q = true := by unfold badQ; simp; omega
        refine ⟨1, ?_⟩
        simp only [goods_Total.l0]
        rw [if_pos hlt, if_pos (by omega), if_pos hlt, hget, if_neg hb, if_pos hb2, if_pos (by simp [hbad])]
      · have hgood : badQ q = false := by unfold badQ; simp; omega
        obtain ⟨k, hk⟩ := ih (pre ++ [q]) (by rw [hp]; simp) (x + q) (by omega) (by simp; omega)
        refine ⟨k + 1, ?_⟩
        have e1 : wrap64 ((pre.length : Int) + 1) = ((pre ++ [q]).length : Int) := by unfold wrap64; simp; omega
        have e2 : wrap64 (x + q) = x + q := by unfold wrap64; omega
        simp only [goods_Total.l0]
        rw [if_pos hlt, if_pos (by omega), if_pos hlt, hget, if_neg hb, if_neg hb2, e1, e2, hk, List.any_cons, hgood, Bool.false_or, show sumL (q :: t) = q + sumL t from rfl, Int.add_assoc]
theorem total_eq (l : List Int) (hl : l.length ≤ 4000000) : ∃ k, goods_Total.f k l = some ((totL l).1, (totL l).2) := by
  obtain ⟨k, hk⟩ := total_l0 l hl [] l rfl 0 (by omega) (by simp)
  refine ⟨k, ?_⟩
  unfold goods_Total.f totL
  simp only [List.length_nil, Int.zero_add] at hk
  exact hk
end Go.Proofs.Ytceojhapfblafaa.G
