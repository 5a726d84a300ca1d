/- SpanWalks: what its walk carries. -/
import Derived.Test.YtcblhfnjcanliaaWk2
import Derived.Deep.Cut
import Derived.LoopN
import Derived.Laws.EntriesVeiled
namespace Go.Proofs.Ytcblhfnjcanliaa.G
open Go.RowKit Go.Proofs.YtcblhfnjcanliaaW.PrintWords Go.Proofs.YtcblhfnjcanliaaW.PrintLast Go.Proofs.YtcblhfnjcanliaaW.PrintMore
open Go.Proofs.Ytcblhfnjcanliaa.Pure
set_option linter.unusedVariables false
attribute [local go_sem] Oper.semAt_some
/-- The two boxes of the beginning. -/
def W2 (w W : World) (k : Int) : Prop := Boxed W w.heap.size 3 (.int .i64 k) ∧ Boxed W (w.heap.size + 1) 4 (.bool false) ∧ Below w.heap.size w W ∧ W.heap.size = w.heap.size + 2
theorem W2.new (w : World) (k : Int) : W2 w ((w.alloc (.cells #[.int .i64 k] 3)).alloc (.cells #[.bool false] 4)) k :=
  ⟨(Boxed.new w 3 _).alloc _, by have := Boxed.new (w.alloc (.cells #[.int .i64 k] 3)) 4 (.bool false); rwa [World.size_alloc] at this, ((Below.refl _ w).alloc (Nat.le_refl _) _).alloc (by simp) _, by simp⟩
theorem W2.set {w W : World} {k : Int} (h : W2 w W k) (k2 : Int) : W2 w (W.setCell ⟨w.heap.size, 0, none⟩ (.int .i64 k2)) k2 :=
  ⟨h.1.set _, h.2.1.other (by omega) _, h.2.2.1.setCell (p := ⟨w.heap.size, 0, none⟩) (Nat.le_refl _) _, by simp; exact h.2.2.2⟩
theorem slit_event {P : Program} {ops : Array Oper} {rest : List Oper} {o : Oper} {a : Act} {Q : Exit → Act → World → Prop} {W : World} (hgd : o.guard = none) {N : Tmp} (_hd : o.dst = some N) {cs : List Value} {e n : Nat}
    (hr : (execOp a.eval o).run P W = .ok (.value (.slice (some ⟨W.heap.size, 0, none⟩) n n)) (W.alloc (.cells cs.toArray e)))
    (h : ∀ g w1, g = W.heap.size → w1.heap[g]? = some (.cells cs.toArray e (0, 0)) → Below W.heap.size W w1 → W.grownBy w1 none → wpList P ops Q rest (a.put o.dst (.slice (some ⟨g, 0, none⟩) n n)) w1) : wpList P ops Q (o :: rest) a W :=
  Kd.event_run hgd hr (h _ _ rfl (blk_new _ _) (below_alloc (Below.refl _ _) _) (World.grownBy_alloc W _ none))
structure Hold (p : Prop) : Prop where
  out : p
theorem hold_ {p : Prop} (h : Hold p) : p := h.out
theorem boxB {W W' : World} {B : Nat} {t : TypeId} {v : Value} (b : Boxed W B t v) (h : Below W.heap.size W W') : Boxed W' B t v := (h.block B b.lt).trans b
theorem below_of_grown {W W' : World} (h : W.grownBy W' none) : Below W.heap.size W W' := ⟨h.os, h.tape, h.output, h.size, fun k hk => h.block k hk (by simp)⟩
/-- The two boxes of the beginning, later. -/
structure S0 (w W : World) (k : Int) : Prop where
  b3 : Boxed W w.heap.size 3 (.int .i64 k)
  b4 : Boxed W (w.heap.size + 1) 4 (.bool false)
  bw : Below w.heap.size w W
  sz : w.heap.size + 2 ≤ W.heap.size
theorem W2.s0 {w W : World} {k : Int} (h : W2 w W k) : S0 w W k := ⟨h.1, h.2.1, h.2.2.1, by rw [h.2.2.2]; exact Nat.le_refl _⟩
theorem S0.grown {w W W' : World} {k : Int} {row : Option Nat} (h : S0 w W k) (hg : W.grownBy W' row) (hr : ∀ r, row = some r → w.heap.size + 2 ≤ r) : S0 w W' k :=
  ⟨h.b3.kept hg (fun e => by have := hr _ e.symm; omega), h.b4.kept hg (fun e => by have := hr _ e.symm; omega), h.bw.grown hg h.bw.size (fun k e => by have := hr k e; omega), Nat.le_trans h.sz hg.size⟩
theorem grown_of_below {W W' : World} (h : Below W.heap.size W W') : W.grownBy W' none := ⟨h.os, h.tape, h.output, h.size, fun k hk _ => h.block k hk⟩
theorem S0.below {w W W' : World} {k : Int} (h : S0 w W k) (hb : Below W.heap.size W W') : S0 w W' k := h.grown (grown_of_below hb) (fun r e => by cases e)
def CellsI (w : World) (A : Option Addr) (l : List Int) : Prop := ∀ pre x suf, l = pre ++ x :: suf → ∃ ad, A = some ad ∧ w.cell? (ad.add pre.length) = some (.int .i64 x)
theorem CellsI.of {w : World} {A : Option Addr} {l : List Int} (h : Kd.C (Kd.int .i64) w A l.length l) : CellsI w A l := by
  intro pre x suf hl
  obtain ⟨ad, e, h0⟩ := Kd.at_int h (pre.length : Int) (by omega) (by rw [hl]; simp; omega)
  rw [Int.toNat_natCast] at h0
  have : rd l (pre.length : Int) = x := by rw [hl]; simp [rd]
  rw [this] at h0
  exact ⟨ad, e, h0⟩
theorem CellsI.move {w w' : World} {A : Option Addr} {l : List Int} (h : CellsI w A l) (hm : ∀ ad, A = some ad → w'.heap[ad.block]? = w.heap[ad.block]?) : CellsI w' A l := by
  intro pre x suf hl
  obtain ⟨ad, e, h0⟩ := h pre x suf hl
  exact ⟨ad, e, (cell_same (by rw [add_block]; exact hm ad e)).trans h0⟩
/-- All that stays: boxes and rows, in blocks below n other than the list's own block g. -/
structure SB (w : World) (n g k b6 b7 B1 B2 : Nat) (Aw : Option Addr) (cw : Nat) (want : List Int) (A1 : Option Addr) (c1 : Nat) (l1 : List S24) (A2 : Option Addr) (c2 : Nat) (l2 : List S24) (W : World) : Prop where
  s0 : S0 w W (k : Int)
  hg : w.heap.size + 2 ≤ g ∧ g < n
  hn : n ≤ W.heap.size
  bw : Boxed W b6 25 (.slice Aw want.length cw)
  n6 : b6 ≠ g ∧ b6 < n
  rw : CellsI W Aw want
  nw : ∀ ad, Aw = some ad → ad.block ≠ g ∧ ad.block < n
  bk : Boxed W b7 28 (.func (.func 8) #[] #[.pointer (some ⟨B1, 0, none⟩)])
  n7 : b7 ≠ g ∧ b7 < n
  x1 : Boxed W B1 22 (.slice A1 l1.length c1)
  nB1 : B1 ≠ g ∧ B1 < n
  r1 : Cells24 W A1 l1
  n1 : ∀ ad, A1 = some ad → ad.block ≠ g ∧ ad.block < n
  x2 : Boxed W B2 22 (.slice A2 l2.length c2)
  nB2 : B2 ≠ g ∧ B2 < n
  r2 : Cells24 W A2 l2
  n2 : ∀ ad, A2 = some ad → ad.block ≠ g ∧ ad.block < n
theorem SB.grown {w : World} {n g k b6 b7 B1 B2 : Nat} {Aw : Option Addr} {cw : Nat} {want : List Int} {A1 : Option Addr} {c1 : Nat} {l1 : List S24} {A2 : Option Addr} {c2 : Nat} {l2 : List S24} {W W' : World} {row : Option Nat}
    (h : SB w n g k b6 b7 B1 B2 Aw cw want A1 c1 l1 A2 c2 l2 W) (hg : W.grownBy W' row) (hr : ∀ r, row = some r → n ≤ r ∨ r = g) : SB w n g k b6 b7 B1 B2 Aw cw want A1 c1 l1 A2 c2 l2 W' := by
  have same : ∀ j, j < n → j ≠ g → W'.heap[j]? = W.heap[j]? := fun j h1 h2 => hg.block j (Nat.lt_of_lt_of_le h1 h.hn) (fun e => by rcases hr j e.symm with h3 | h3 <;> omega)
  have kb : ∀ {B : Nat} {t : TypeId} {v : Value}, Boxed W B t v → B ≠ g ∧ B < n → Boxed W' B t v := fun hb hn => (same _ hn.2 hn.1).trans hb
  have hgg := h.hg
  exact ⟨h.s0.grown hg (fun r e => by rcases hr r e with h3 | h3 <;> omega), h.hg, Nat.le_trans h.hn hg.size, kb h.bw h.n6, h.n6, h.rw.move (fun ad e => same _ (h.nw ad e).2 (h.nw ad e).1), h.nw, kb h.bk h.n7, h.n7, kb h.x1 h.nB1, h.nB1, h.r1.move (fun ad e => same _ (h.n1 ad e).2 (h.n1 ad e).1), h.n1, kb h.x2 h.nB2, h.nB2, h.r2.move (fun ad e => same _ (h.n2 ad e).2 (h.n2 ad e).1), h.n2⟩
/-- The list's own block. -/
structure Lst (g n : Nat) (W : World) : Prop where
  blk : ∃ cs, W.heap[g]? = some (.cells cs 24 (0, 0)) ∧ 2 * n ≤ cs.size
theorem Lst.of {W : World} {base n c : Nat} {A : Option Addr} {L : List S24} (h : Kd.R k24 24 W base (fun _ => True) (.slice A n c) L) (hl : 0 < L.length) : ∃ g, A = some ⟨g, 0, none⟩ ∧ base ≤ g ∧ g < W.heap.size ∧ Lst g L.length W := by
  have hn := (Kd.R_reads' h).1
  obtain ⟨_, inner, ho, _⟩ := h
  rcases ho.2 with ⟨_, h1⟩ | ⟨g, cap, cur, e, hbg, hhg, hnc, hcm, hcs, htk⟩
  · omega
  · injection e with e1 e2 e3
    exact ⟨g, e1, hbg, (Array.getElem?_eq_some_iff.1 hhg).1, ⟨cur, hhg, by rw [hcs, ← hn]; have : k24.sz = 2 := rfl; rw [this]; omega⟩⟩
theorem Lst.kept {g n : Nat} {W W' : World} (h : Lst g n W) (hb : Below W.heap.size W W') : Lst g n W' := by
  obtain ⟨cs, h1, h2⟩ := h.blk
  exact ⟨cs, (hb.block g (Array.getElem?_eq_some_iff.1 h1).1).trans h1, h2⟩
theorem Lst.cell {g n : Nat} {W : World} (h : Lst g n W) (j : Nat) (hj : j < 2 * n) : ∃ u, W.cell? ⟨g, j, none⟩ = some u := by
  obtain ⟨cs, h1, h2⟩ := h.blk
  exact ⟨cs[j]'(by omega), by simp [World.cell?, h1, show j < cs.size by omega]⟩
theorem Lst.frozen {g n : Nat} {W : World} (h : Lst g n W) (j : Nat) : W.frozen? ⟨g, j, none⟩ = false := by
  obtain ⟨cs, h1, h2⟩ := h.blk
  simp [World.frozen?, h1]
theorem grown_set (W : World) (p : Addr) (v : Value) : W.grownBy (W.setCell p v) (some p.block) :=
  ⟨rfl, rfl, rfl, by simp, fun k _ hk => Below.heap_setCell W p v k (fun e => hk (by rw [e]))⟩
theorem Lst.set {g n : Nat} {W : World} (h : Lst g n W) (j : Nat) (v : Value) : Lst g n (W.setCell ⟨g, j, none⟩ v) := by
  obtain ⟨cs, h1, h2⟩ := h.blk
  have hg : g < W.heap.size := (Array.getElem?_eq_some_iff.1 h1).1
  refine ⟨cs.setIfInBounds j v, ?_, by simpa using h2⟩
  unfold World.setCell
  simp [Array.getElem?_modify, h1]
theorem SB.cells {w : World} {n g k b6 b7 B1 B2 : Nat} {Aw : Option Addr} {cw : Nat} {want : List Int} {A1 : Option Addr} {c1 : Nat} {l1 : List S24} {A2 : Option Addr} {c2 : Nat} {l2 : List S24} {W : World}
    (h : SB w n g k b6 b7 B1 B2 Aw cw want A1 c1 l1 A2 c2 l2 W) : W.cell? ⟨w.heap.size, 0, none⟩ = some (.int .i64 (k : Int)) ∧ W.cell? ⟨w.heap.size + 1, 0, none⟩ = some (.bool false) ∧ W.frozen? ⟨w.heap.size + 1, 0, none⟩ = false ∧
      W.cell? ⟨b6, 0, none⟩ = some (.slice Aw want.length cw) ∧ W.cell? ⟨b7, 0, none⟩ = some (.func (.func 8) #[] #[.pointer (some ⟨B1, 0, none⟩)]) :=
  ⟨h.s0.b3.cell, h.s0.b4.cell, h.s0.b4.frozen, h.bw.cell, h.bk.cell⟩
/-- Between two rounds. -/
structure RI (PS : World → Prop) (n : Nat) (ds : List Nat) (b : Nat) (N : List Int) (m : Nat) (pre : List Int) (W : World) : Prop where
  ps : PS W
  ms : Marks n ds W
  bx : Boxed W b 3 (.int .i64 (pre.length : Int))
  pf : pre <+: N
  le : pre.length ≤ m
/-- Behind a loop. -/
structure RE (PS : World → Prop) (n : Nat) (ds : List Nat) (b : Nat) (v : Int) (W : World) : Prop where
  ps : PS W
  ms : Marks n ds W
  bx : Boxed W b 3 (.int .i64 v)
def PGt (PS : World → Prop) (n g : Nat) : Prop := ∀ W W' row, PS W → W.grownBy W' row → (∀ r, row = some r → n ≤ r ∨ r = g) → PS W'
theorem RE.own {PS : World → Prop} {n g b B : Nat} {ds : List Nat} {v : Int} (PG : PGt PS n g) (hn : n ≤ B) (hb : b < B) (hds : ∀ D ∈ ds, D < B) : OwnFrom B (fun (_ : Unit) W => RE PS n ds b v W) := fun s W W' row h hg hr =>
  ⟨PG _ _ _ h.ps hg (fun r e => .inl (Nat.le_trans hn (hr r e).1)), h.ms.grown hg (fun r e hd => by have := (hr r e).1; have := hds _ hd; omega), h.bx.kept hg (fun e => by have := (hr _ e.symm).1; omega)⟩
theorem RI.own {PS : World → Prop} {n g b B m : Nat} {ds : List Nat} {N : List Int} (PG : PGt PS n g) (hn : n ≤ B) (hb : b < B) (hds : ∀ D ∈ ds, D < B) : OwnFrom B (fun pre W => RI PS n ds b N m pre W) := fun s W W' row h hg hr =>
  ⟨PG _ _ _ h.ps hg (fun r e => .inl (Nat.le_trans hn (hr r e).1)), h.ms.grown hg (fun r e hd => by have := (hr r e).1; have := hds _ hd; omega), h.bx.kept hg (fun e => by have := (hr _ e.symm).1; omega), h.pf, h.le⟩
theorem marks_ne {n b t : Nat} {ds : List Nat} {v : Value} {W : World} (h : Marks n ds W) (hb : Boxed W b t v) : b ∉ ds := fun hd => by
  have := (h b hd).2
  rw [show W.heap[b]? = _ from hb] at this
  cases this
/-- A store into the loop's own box. -/
theorem RE.set {PS : World → Prop} {n g b : Nat} {ds : List Nat} {v : Int} {W : World} (PG : PGt PS n g) (hb : n ≤ b) (h : RE PS n ds b v W) (u : Int) : RE PS n ds b u (W.setCell ⟨b, 0, none⟩ (.int .i64 u)) :=
  ⟨PG _ _ _ h.ps (grown_set _ _ _) (fun r e => .inl (by cases e; exact hb)), h.ms.grown (grown_set _ _ _) (fun r e => by cases e; exact marks_ne h.ms h.bx), h.bx.set _⟩
theorem RI.re {PS : World → Prop} {n b m : Nat} {ds : List Nat} {N : List Int} {pre : List Int} {W : World} (h : RI PS n ds b N m pre W) : RE PS n ds b (pre.length : Int) W := ⟨h.ps, h.ms, h.bx⟩
theorem kpc_set (b : Nat) (W : World) (v : Value) : KpC b W (W.setCell ⟨b, 0, none⟩ v) := KpC.grown (grown_set W ⟨b, 0, none⟩ v) (fun r e => .inl (by cases e; rfl))
theorem pre_want {pre : List Int} {x : Int} {N want : List Int} {k : Nat} (hx : pre ++ [x] <+: N) (hl : pre.length ≤ k) (hw : N.take (k + 1) = want) : ∃ sf, want = pre ++ x :: sf := by
  obtain ⟨t, ht⟩ := hx
  refine ⟨t.take (k - pre.length), ?_⟩
  rw [← hw, ← ht, List.take_append, List.take_of_length_le (by simp; omega)]
  simp
theorem pre_not {pre : List Int} {x : Int} {N want : List Int} {k : Nat} (hp : pre <+: N) (hx : ¬ pre ++ [x] <+: N) (hl : pre.length ≤ k) (hw : N.take (k + 1) = want) : want.length ≤ pre.length ∨ ∃ y sf, want = pre ++ y :: sf ∧ x ≠ y := by
  obtain ⟨t, ht⟩ := hp
  cases t with
  | nil => left; rw [← hw, ← ht]; simp; omega
  | cons y t =>
    right
    refine ⟨y, t.take (k - pre.length), ?_, fun e => hx ⟨t, by rw [← ht, e]; simp⟩⟩
    rw [← hw, ← ht, List.take_append, List.take_of_length_le (by omega), show k + 1 - pre.length = (k - pre.length) + 1 from by omega, List.take_succ_cons]
theorem len_full {pre N want : List Int} {k : Nat} (hp : pre <+: N) (hl : pre.length = k + 1) (hw : N.take (k + 1) = want) : pre.length = want.length := by
  have := hp.length_le
  rw [← hw, List.length_take]; omega
theorem len_end {N want : List Int} {k : Nat} (hl : N.length ≤ k) (hw : N.take (k + 1) = want) : N.length = want.length := by
  rw [← hw, List.length_take]; omega
/-- What the second loop reckons. -/
def sumW (l : List Int) : Int := l.foldl (fun s x => wrap64 (wrap64 (3 * s) + x)) 0
theorem sumW_snoc (l : List Int) (x : Int) : sumW (l ++ [x]) = wrap64 (wrap64 (3 * sumW l) + x) := by simp [sumW]
theorem nums_500 : numsOf [⟨500, 502⟩] = [500, 501, 502] := by simp [numsOf, cnt, rng]
theorem sumW_end : sumW (numsOf [⟨500, 502⟩]) = 6505 := by rw [nums_500]; simp [sumW, wrap64]
theorem RE.move {PS : World → Prop} {n g b : Nat} {ds : List Nat} {v : Int} {W W' : World} (PG : PGt PS n g) (h : RE PS n ds b v W) (hg : W.grownBy W' none) : RE PS n ds b v W' :=
  ⟨PG _ _ _ h.ps hg (fun r e => by cases e), h.ms.grown hg (fun r e => by cases e), h.bx.kept hg (by simp)⟩
theorem Marks.cons {n D m : Nat} {ds : List Nat} {W : World} (h : Marks n ds W) (hn : n ≤ m) (hD : m ≤ D) (hK : W.heap[D]? = some (.deferred (some []))) : Marks n (D :: ds) W := fun d hd => by
  rcases List.mem_cons.1 hd with e | e
  · subst e; exact ⟨Nat.le_trans hn hD, hK⟩
  · exact h d e
theorem Marks.lt {n : Nat} {ds : List Nat} {W : World} (h : Marks n ds W) : ∀ D ∈ ds, D < W.heap.size := fun D hD => (Array.getElem?_eq_some_iff.1 (h D hD).2).1
theorem RE.start {PS : World → Prop} {n g : Nat} {ds : List Nat} {W : World} (PG : PGt PS n g) (h : PS W) (hm : Marks n ds W) (t : Nat) : RE PS n ds W.heap.size 0 (W.alloc (.cells #[.int .i64 0] 3)) :=
  ⟨PG _ _ _ h (World.grownBy_alloc _ _ none) (fun r e => by cases e), hm.grown (World.grownBy_alloc _ _ none) (fun r e => by cases e), Boxed.new _ _ _⟩
theorem out_500 {pre : List Int} {x : Int} (hp : pre ++ [x] <+: numsOf [⟨500, 502⟩]) : 500 ≤ x ∧ x ≤ 502 := by
  have h := hp.subset (show x ∈ pre ++ [x] by simp)
  rw [nums_500] at h
  simp at h
  omega
theorem KpC.far {b j : Nat} {W0 W W' : World} (h : KpC b W0 W) (hg : W.grownBy W' (some j)) (hj : W0.heap.size ≤ j) : KpC b W0 W' :=
  ⟨Nat.le_trans h.1 hg.size, fun k o hk ho hb => by
    have hkl := (Array.getElem?_eq_some_iff.1 hk).1
    have h2 := h.2 k o hk ho hb
    exact (hg.block k (Array.getElem?_eq_some_iff.1 h2).1 (fun e => by injection e with e; omega)).trans h2⟩
/-- Within an outer round that began at W0: the inner loop's words and what the outer law will ask. -/
structure RJ (W0 : World) (B b5 : Nat) (v5 : Int) (R : World → Prop) (W : World) : Prop where
  r : R W
  bo : Boxed W b5 3 (.int .i64 v5)
  kf : KeepsFrom B W0 W
  kp : KpC b5 W0 W
theorem RJ.own {β : Type} {W0 : World} {B b5 Bin : Nat} {v5 : Int} {R : β → World → Prop} (hR : OwnFrom Bin R) (h0 : W0.heap.size ≤ Bin) (h5 : b5 < Bin) : OwnFrom Bin (fun s W => RJ W0 B b5 v5 (R s) W) := fun s W W' row h hg hr => by
  have far : ∀ k, k < Bin → some k ≠ row := fun k hk e => by have := (hr _ e.symm).1; omega
  refine ⟨hR s W W' row h.r hg hr, h.bo.kept hg (far _ h5), ⟨Nat.le_trans h.kf.size hg.size, fun k o hk ho hc => ?_⟩, ⟨Nat.le_trans h.kp.1 hg.size, fun k o hk ho hb => ?_⟩⟩
  · have h1 := h.kf.same k o hk ho hc
    exact (hg.block k (Array.getElem?_eq_some_iff.1 h1).1 (far k (Nat.lt_of_lt_of_le (Array.getElem?_eq_some_iff.1 ho).1 h0))).trans h1
  · have h1 := h.kp.2 k o hk ho hb
    exact (hg.block k (Array.getElem?_eq_some_iff.1 h1).1 (far k (Nat.lt_of_lt_of_le (Array.getElem?_eq_some_iff.1 hk).1 h0))).trans h1
theorem RJ.set {W0 W : World} {B b5 b6 : Nat} {v5 : Int} {R R' : World → Prop} {v : Value} (h : RJ W0 B b5 v5 R W) (h6 : W0.heap.size ≤ b6) (hne : b5 ≠ b6) (hr : R' (W.setCell ⟨b6, 0, none⟩ v)) : RJ W0 B b5 v5 R' (W.setCell ⟨b6, 0, none⟩ v) :=
  ⟨hr, h.bo.other hne v, h.kf.trans ((KeepsOthers.setCell _ _ _).from _), h.kp.far (grown_set W ⟨b6, 0, none⟩ v) h6⟩
theorem num_pos {L a : List S24} (h : [⟨2, 3⟩] ++ a = L) : 0 < (numsOf (canon L)).length := by
  have hm : Mem (canon L) 2 := ((canon_rep L).2 2).2 ⟨by omega, by omega, ⟨2, 3⟩, by rw [← h]; simp, by simp, by simp⟩
  obtain ⟨_, _, r, hr, h1, h2⟩ := hm
  cases hc : canon L with
  | nil => rw [hc] at hr; cases hr
  | cons y t =>
    have hb := normFrom_mem (by omega) (canon_norm' L) y (by rw [hc]; simp)
    have : 0 < cnt y := by unfold cnt; omega
    rw [numsOf, List.length_append, rng_len]
    omega
theorem results3 {a : Nat} {tmps : Array Value} {W : World} {v : Bool} (h4 : tmps.getD 4 undef = .pointer (some ⟨a, 0, none⟩)) (c4 : W.cell? ⟨a, 0, none⟩ = some (.bool v)) : (results Try.f3 tmps).run Try.prog W = .ok (.bool v) W := by
  have hr : Try.f3.results = #[.cell 4 4] := rfl
  have h4' : tmps[4]?.getD undef = .pointer (some ⟨a, 0, none⟩) := by simpa using h4
  simp only [results, hr]
  simp [h4', asAddr]
  go_simp
def shut (W : World) : List Nat → World
  | [] => W
  | D :: ds => shut (W.putObj D (.deferred none)) ds
theorem shut_kept {n : Nat} {P : World → Prop} (hP : ∀ W D, n ≤ D → P W → W.heap[D]? = some (.deferred (some [])) → P (W.putObj D (.deferred none))) : ∀ (ds : List Nat) (W : World), ds.Nodup → (∀ D ∈ ds, n ≤ D ∧ W.heap[D]? = some (.deferred (some []))) → P W → P (shut W ds)
  | [], W, _, _, h => h
  | D :: ds, W, hn, hd, h => by
    obtain ⟨hn1, hn2⟩ := List.nodup_cons.1 hn
    exact shut_kept hP ds _ hn2 (fun d hdd => ⟨(hd d (List.mem_cons_of_mem _ hdd)).1, (World.putObj_heap_other (fun e => hn1 (by first | (rw [e]; exact hdd) | (rw [← e]; exact hdd)))).trans (hd d (List.mem_cons_of_mem _ hdd)).2⟩) (hP W D (hd D (by simp)).1 h (hd D (by simp)).2)
theorem leave_marks {fn : Func} {tmps : Array Value} {R : Ending → World → Prop} : ∀ (ds : List Nat) (W : World), ds.Nodup → (∀ D ∈ ds, W.heap[D]? = some (.deferred (some []))) → LeavesInM Fence.wide 9 Try.prog fn tmps R [] .returning (shut W ds) →
    LeavesInM Fence.wide 9 Try.prog fn tmps R (ds.map fun D => { target := .collected D, args := #[] }) .returning W
  | [], W, _, _, h => h
  | D :: ds, W, hn, hd, h => by
    obtain ⟨hn1, hn2⟩ := List.nodup_cons.1 hn
    refine ⟨by simp, .inl ⟨D, _, rfl, run_takeDeferred (hd D (by simp)), ?_⟩⟩
    exact leave_marks ds _ hn2 (fun d hdd => (World.putObj_heap_other (fun e => hn1 (by first | (rw [e]; exact hdd) | (rw [← e]; exact hdd)))).trans (hd d (List.mem_cons_of_mem _ hdd))) h
theorem walks_end {w V : World} {n : Nat} {ds : List Nat} {tmps : Array Value} (hn : w.heap.size + 2 ≤ n) (hnd : ds.Nodup) (hm : Marks n ds V) (hb : Boxed V (w.heap.size + 1) 4 (.bool true)) (hw : Below w.heap.size w V) (h4 : tmps.getD 4 undef = .pointer (some ⟨w.heap.size + 1, 0, none⟩)) :
    LeavesInM Fence.wide 9 Try.prog Try.f3 tmps (fun e w' => e = .returned (.bool true) ∧ Below w.heap.size w w') (ds.map fun D => { target := .collected D, args := #[] }) .returning V := by
  refine leave_marks ds V hnd (fun D hD => (hm D hD).2) ?_
  obtain ⟨h1, h2⟩ := shut_kept (n := n) (P := fun W => Boxed W (w.heap.size + 1) 4 (.bool true) ∧ Below w.heap.size w W) (fun W D hD h hK =>
    ⟨h.1.kept (grownBy_putObj' W D (.deferred none)) (fun e => by injection e with e; omega), h.2.trans ⟨rfl, rfl, rfl, by simp, fun k hk => World.putObj_heap_other (by omega)⟩⟩) ds V hnd hm ⟨hb, hw⟩
  exact ⟨_, results3 h4 h1.cell, rfl, h2⟩
theorem RE.own' {PS : World → Prop} {n g b B : Nat} {ds : List Nat} (PG : PGt PS n g) (hn : n ≤ B) (hb : b < B) (hds : ∀ D ∈ ds, D < B) : OwnFrom B (fun (_ : Unit) W => ∃ v : Nat, 1 ≤ v ∧ RE PS n ds b (v : Int) W) := fun s W W' row h hg hr => by
  obtain ⟨v, hv, h⟩ := h
  exact ⟨v, hv, RE.own PG hn hb hds () W W' row h hg hr⟩
theorem RM.own {PS : World → Prop} {n g B : Nat} {ds : List Nat} (PG : PGt PS n g) (hn : n ≤ B) (hds : ∀ D ∈ ds, D < B) : OwnFrom B (fun (_ : Unit) W => PS W ∧ Marks n ds W) := fun s W W' row h hg hr =>
  ⟨PG _ _ _ h.1 hg (fun r e => .inl (Nat.le_trans hn (hr r e).1)), Marks.grown h.2 hg (fun r e hd => by have := (hr r e).1; have := hds _ hd; omega)⟩
end Go.Proofs.Ytcblhfnjcanliaa.G
