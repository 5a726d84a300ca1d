import Derived.Test.YtlmdcpooogaolaaDoorQTh12
import Derived.Test.YtlmdcpooogaolaaDoorQTh2
import Derived.Shelf.SlSortCmp.WholeK
import Derived.Shelf.SlSortCmp.NoneTotal
import Derived.Test.YtlmdcpooogaolaaDoorQTh7
/- slices.SortFunc of a row of runs that begin from 1 to 1000000000, by where they begin: the row holds what Go's own sort makes of it; nothing else is turned. -/
namespace Go.Proofs.YtlmdcpooogaolaaDoor.G
open Go.RowKit Go.Proofs.YtlmdcpooogaolaaDoorW.PrintWords Go.Proofs.YtlmdcpooogaolaaDoorW.PrintLast Go.Proofs.YtlmdcpooogaolaaDoorW.PrintMore
open Go.Sort

abbrev SRun := { x : S32 // 1 ≤ x.f0 ∧ x.f0 ≤ 1000000000 }
instance : Inhabited SRun := ⟨⟨⟨1, 1⟩, by decide, by decide⟩⟩
def encR32 (x : SRun) : List Value := [.int .i64 x.1.f0, .int .i64 x.1.f1]
def cmpR (x y : SRun) : Int := x.1.f0 - y.1.f0
def ltR : SRun → SRun → Bool := ltOf cmpR
theorem ltR_eq (x y : SRun) : ltR x y = decide (x.1.f0 < y.1.f0) := by
  unfold ltR ltOf cmpR
  by_cases h : x.1.f0 < y.1.f0
  · rw [decide_eq_true h, decide_eq_true (by omega)]
  · rw [decide_eq_false h, decide_eq_false (by omega)]
theorem swoR : SWO (ltOf cmpR) where
  irrefl x := by have := ltR_eq x x; unfold ltR at this; rw [this]; simp
  trans x y z h1 h2 := by
    have a := ltR_eq x y; have b := ltR_eq y z; have c := ltR_eq x z
    unfold ltR at a b c
    rw [a] at h1; rw [b] at h2; rw [c]; simp at *; omega
  ntrans x y z h1 h2 := by
    have a := ltR_eq x y; have b := ltR_eq y z; have c := ltR_eq x z
    unfold ltR at a b c
    rw [a] at h1; rw [b] at h2; rw [c]; simp at *; omega

set_option maxHeartbeats 1000000 in
/-- The comparison: 'x.Lo - y.Lo'. -/
theorem closure32 (x y : SRun) (W : World) : Calls Tryd.prog 32 #[.agg #[.int .i64 x.1.f0, .int .i64 x.1.f1], .agg #[.int .i64 y.1.f0, .int .i64 y.1.f1]] W fun e w' => e = .returned (.int .i64 (cmpR x y)) ∧ ∃ q os', w' = grow (W.drewN q) os' := by
  unfold cmpR
  obtain ⟨⟨a, b⟩, h1, h2⟩ := x
  obtain ⟨⟨c, d⟩, h3, h4⟩ := y
  simp only at h1 h2 h3 h4 ⊢
  go_enter Tryd.func32, Tryd.ntmps32
  go_wp2
  go_ret
  exact ⟨rfl, 0, _, by rw [alloc_eq_grow, alloc_eq_grow, grow_grow]; rfl⟩

def okLo (l : List S32) : Prop := ∀ x ∈ l, 1 ≤ x.f0 ∧ x.f0 ≤ 1000000000
instance (l : List S32) : Decidable (okLo l) := by unfold okLo; infer_instance
def toR (l : List S32) (h : okLo l) : Array SRun := (l.attach.map fun x => (⟨x.1, h x.1 x.2⟩ : SRun)).toArray
theorem toR_val (l : List S32) (h : okLo l) : (toR l h).toList.map (·.1) = l := by
  unfold toR
  simp
theorem toR_size (l : List S32) (h : okLo l) : (toR l h).size = l.length := by simp [toR]
def sortR (d : Array SRun) : Array SRun := pdq (ltOf cmpR) d 0 d.size (Lib.bitLen d.size) true true
theorem sortR_facts (d : Array SRun) : PermIn 0 d.size d (sortR d) ∧ SortedIn (ltOf cmpR) 0 d.size (sortR d) :=
  pdq_sorts (ltOf cmpR) swoR d 0 d.size (Lib.bitLen d.size) true true (Nat.zero_le _) (Nat.le_refl _) (Or.inl rfl)
def api_Run.f (l0 : List S32) : Option (List S32) :=
  if l0.length = 0 then some [] else if h : okLo l0 then (if l0.length < 4611686018427387904 then some ((sortR (toR l0 h)).toList.map (·.1)) else none) else none

theorem rd_val (d : Array SRun) (i : Nat) (h : i < d.size) : rd_T32 (d.toList.map (·.1)) (i : Int) = d[i]!.1 := by
  unfold rd_T32
  rw [Int.toNat_natCast, List.getD_eq_getElem?_getD, List.getElem?_map, Array.getElem?_toList, Array.getElem?_eq_getElem h, getElem!_pos d i h]
  rfl
/-- The flat row is the list's cells. -/
theorem flat_cells (d : Array SRun) (j : Nat) (h : j < d.size * 2) : (runCells (d.toList.map (·.1)))[j]? = some (flatK encR32 2 d)[j]! := by
  rw [get_flatK _ _ _ _ h, runCells_get, if_pos (by simpa using h), rd_val d (j / 2) (by omega)]
  unfold encR32
  rcases Nat.mod_two_eq_zero_or_one j with e | e <;> simp [e]
theorem flat_list (d : Array SRun) : (flatK encR32 2 d).toList = runCells (d.toList.map (·.1)) := by
  apply List.ext_getElem?
  intro j
  by_cases h : j < d.size * 2
  · rw [flat_cells d j h, Array.getElem?_toList, Array.getElem?_eq_getElem (by rw [size_flatK]; exact h), getElem!_pos _ j (by rw [size_flatK]; exact h)]
  · rw [Array.getElem?_toList, Array.getElem?_eq_none (by rw [size_flatK]; omega), runCells_get, if_neg (by simpa using h)]

theorem heap_sortK {w : World} {g n : Nat} {os : Array Obj} {cur : Array Value} {e : TypeId} {fr : Nat × Nat} (d : Array SRun) (hb : w.heap[g]? = some (.cells cur e fr)) :
    (sortWorldK encR32 2 w g 0 n d os).heap[g]? = some (.cells (putCells id 0 (flatK encR32 2 d) cur) e fr) := by
  have hg : g < w.heap.size := (Array.getElem?_eq_some_iff.1 hb).1
  unfold sortWorldK putRowK
  rw [heap_grow_old _ _ (by simpa [Sort.ahead] using hg)]
  simp [putRow, mapBlock, Sort.ahead, Array.getElem?_modify, hb, onCells]
theorem grownBy_sortK {w : World} {g n : Nat} {os : Array Obj} (d : Array SRun) : w.grownBy (sortWorldK encR32 2 w g 0 n d os) (some g) := by
  unfold sortWorldK putRowK
  refine ⟨rfl, rfl, rfl, by simp [Sort.ahead], fun k hk hne => ?_⟩
  rw [heap_grow_old _ _ (by simpa [Sort.ahead] using hk)]
  have : g ≠ k := fun e => hne (by rw [e])
  simp [putRow, mapBlock, Sort.ahead, Array.getElem?_modify, this]
theorem take_putK (cur : Array Value) (d : Array SRun) (h : d.size * 2 ≤ cur.size) : (putCells id 0 (flatK encR32 2 d) cur).toList.take (d.size * 2) = runCells (d.toList.map (·.1)) := by
  rw [← flat_list]
  apply List.ext_getElem?
  intro j
  by_cases hj : j < d.size * 2
  · have h2 : j < cur.size := by omega
    have h3 : j < (flatK encR32 2 d).size := by rw [size_flatK]; exact hj
    rw [List.getElem?_take_of_lt hj, Array.getElem?_toList, Array.getElem?_toList, Array.getElem?_eq_getElem h3]
    have : j < d.size * 2 := hj
    simp [putCells, h2, this]
  · rw [List.getElem?_take_eq_none (by omega), Array.getElem?_toList, Array.getElem?_eq_none (by rw [size_flatK]; omega)]

theorem cmpLays32 (blk off size : Nat) (w : World) : CmpLays Tryd.prog 32 #[] encR32 2 cmpR blk off size w :=
  fun _ _ _ _ x y => closure32 x y _

theorem api_Run.calls (P0_ : Nat → Prop) (u9000_ : Value) (l0 : List S32) (r : List S32) (w0 w : World) (hB : Below w0.heap.size w0 w) (ho0 : Kd.R k32 32 w w0.heap.size P0_ u9000_ l0) (h : api_Run.f l0 = some r) :
    Calls Tryd.prog 31 #[u9000_, .func (.func 32) #[] #[]] w fun e w' => e = .returned (.tuple #[]) ∧ Kd.R k32 32 w' w0.heap.size (fun k_ => (P0_ k_ ∨ w.heap.size ≤ k_)) u9000_ r ∧ Below w0.heap.size w0 w' ∧ Kept w w' (fun k_ => P0_ k_) := by
  unfold api_Run.f at h
  by_cases hz : l0.length = 0
  · rw [if_pos hz] at h
    simp only [Option.some.injEq] at h
    subst h
    have hl : l0 = [] := List.eq_nil_of_length_eq_zero hz
    subst hl
    obtain ⟨A, c, rfl⟩ := Kd.R_slice ho0
    have hcon := AnyF.slices_SortFunc_none Tryd.sortRun A c (.func (.func 32) #[] #[]) w
    change Calls Tryd.prog 31 _ _ _ at hcon
    refine hcon.mono fun e w' hw => ?_
    obtain ⟨he, hw⟩ := hw
    subst hw
    exact ⟨he, Kd.R_mono ho0 (fun _ hk => .inl hk), hB, Kept.refl _ _⟩
  · rw [if_neg hz] at h
    by_cases hok : okLo l0
    · rw [dif_pos hok] at h
      by_cases hlt : l0.length < 4611686018427387904
      · rw [if_pos hlt] at h
        simp only [Option.some.injEq] at h
        have hread := Kd.R_reads ho0
        obtain ⟨h0, inner, ho, hr⟩ := ho0
        rcases ho.2 with ⟨_, h1⟩ | ⟨g, cap, cur, rfl, hbg, hhg, hnc, hcm, hcs, htk⟩
        · exact absurd h1 hz
        · obtain ⟨A, c, he, _, hC⟩ := hread
          injection he with he1 _ he3
          subst he1
          have hcells := run_cells_of w _ l0 hC
          have hsz := toR_size l0 hok
          have hHold : HoldsK encR32 2 w g 0 (toR l0 hok) := by
            intro j hj
            rw [size_flatK] at hj
            refine ⟨?_, by simp [World.frozen?, hhg]⟩
            have := hcells j _ (by rw [← toR_val l0 hok]; exact flat_cells (toR l0 hok) j hj)
            rw [add_plain] at this
            rw [Nat.zero_add]
            exact this
          have hg : g < w.heap.size := (Array.getElem?_eq_some_iff.1 hhg).1
          have hcon := AnyQ.slices_SortFunc_eq Tryd.sortRun 2 Tryd.isAgg32 Tryd.sizeOf32 encR32 (fun _ => rfl) (fun x v hv => by simp [encR32] at hv; rcases hv with rfl | rfl <;> rfl) cmpR swoR 32 #[] g 0 cap (toR l0 hok) w (enters_of Tryd.func32 (by kernel_rfl) rfl) (cmpLays32 g 0 _ w) hHold hg (by rw [hsz]; exact hlt)
          change Calls Tryd.prog 31 _ _ _ at hcon
          rw [hsz] at hcon
          refine hcon.mono fun e w' hw => ?_
          obtain ⟨he, n, os, hw⟩ := hw
          obtain ⟨hperm, _⟩ := sortR_facts (toR l0 hok)
          have hsz2 : (sortR (toR l0 hok)).size = l0.length := by rw [hperm.1, hsz]
          have hw2 : w' = sortWorldK encR32 2 w g 0 n (sortR (toR l0 hok)) os := by unfold sortR; rw [hsz]; exact hw
          clear hw
          subst hw2
          obtain ⟨D, hD⟩ : ∃ D, sortR (toR l0 hok) = D := ⟨_, rfl⟩
          rw [hD] at hsz2 h ⊢
          have hPg : P0_ g := h0 g (by simp [Value.ownBlock])
          have hgr := grownBy_sortK (w := w) (g := g) (n := n) (os := os) D
          have hrl : r.length = l0.length := by rw [← h, List.length_map, Array.length_toList, hsz2]
          have hlen : l0.length * 2 ≤ cur.size := by rw [hcs]; exact Nat.mul_le_mul_right _ hnc
          refine ⟨he, ⟨fun k hk => .inl (h0 k hk), runCells r, ⟨?_, .inr ⟨g, cap, putCells id 0 (flatK encR32 2 D) cur, ?_, hbg, heap_sortK D hhg, ?_, hcm, ?_, ?_⟩⟩, run_reps _ _ _ _⟩, hB.grown hgr (Nat.le_trans hB.size (Nat.le_refl _)) (fun k hk => by cases hk; exact hbg), ⟨hgr.size, fun i hi hn => hgr.block i hi (fun e => by cases e; exact hn hPg)⟩⟩
          · rw [runCells_length]; rfl
          · rw [hrl]
          · rw [hrl]; exact hnc
          · rw [← hcs]; simp [putCells]
          · have := take_putK cur D (by rw [hsz2]; exact hlen)
            rw [h, hsz2, ← hrl] at this
            exact this
      · rw [if_neg hlt] at h; cases h
    · rw [dif_neg hok] at h; cases h
end Go.Proofs.YtlmdcpooogaolaaDoor.G

-- PRINTED by print.py (a twelfth state) out of the translation. Not trusted: Lean checks it.
namespace Go.Proofs.YtlmdcpooogaolaaDoor.G
open Go.RowKit Go.Proofs.YtlmdcpooogaolaaDoorW.PrintWords Go.Proofs.YtlmdcpooogaolaaDoorW.PrintLast Go.Proofs.YtlmdcpooogaolaaDoorW.PrintMore
attribute [local go_sem] max2_int min2_int max_two min_two max_three min_three max_four min_four   -- for this text's walks alone
set_option linter.unusedVariables false
set_option linter.unusedSimpArgs false

/-! ### span_Union: function 21 -/
mutual
def span_Union.l0 : Nat → List (S32) → List (List (S32)) → Int → Int → Option ((List (S32)))
 | 0, _, _, _, _ => none
 | k + 1, x3, x13, x14, x15 => if x15 < x14 then (if 0 ≤ x15 then (if x15 < (x13.length : Int) then (span_Union.l1 k x3 x13 x14 x15 (rd_L2 x13 x15) ((rd_L2 x13 x15).length : Int) 0) else (none)) else (none)) else ((api_Run.f x3).bind fun t123 => (span_Union.l2 k ([] : List (S32)) t123 (x3.length : Int) 0))
def span_Union.l1 : Nat → List (S32) → List (List (S32)) → Int → Int → List (S32) → Int → Int → Option ((List (S32)))
 | 0, _, _, _, _, _, _, _ => none
 | k + 1, x3, x13, x14, x15, x19, x20, x21 => if x21 < x20 then (if 0 ≤ x21 then (if x21 < (x19.length : Int) then ((span_clip.f ((rd_T32 x19 x21).f0) ((rd_T32 x19 x21).f1)).bind fun bt116 => (if bt116.2.2 = true then (if x3.length < 8796093022208 then (span_Union.l1 k (x3 ++ [(⟨bt116.1, bt116.2.1⟩ : S32)]) x13 x14 x15 x19 x20 (wrap64 (x21 + 1))) else (none)) else (span_Union.l1 k x3 x13 x14 x15 x19 x20 (wrap64 (x21 + 1))))) else (none)) else (none)) else (span_Union.l0 k x3 x13 x14 (wrap64 (x15 + 1)))
def span_Union.l2 : Nat → List (S32) → List (S32) → Int → Int → Option ((List (S32)))
 | 0, _, _, _, _ => none
 | k + 1, x10, x39, x40, x41 => if x41 < x40 then (if 0 ≤ x41 then (if x41 < (x39.length : Int) then ((span_add.f x10 ((rd_T32 x39 x41).f0) ((rd_T32 x39 x41).f1)).bind fun t126 => (span_Union.l2 k t126 x39 x40 (wrap64 (x41 + 1)))) else (none)) else (none)) else (some x10)
end
def span_Union.f (k : Nat) (l0 : List (List (S32))) : Option ((List (S32))) := span_Union.l0 k ([] : List (S32)) l0 (l0.length : Int) 0
theorem span_Union.mono_l : ∀ k, (∀ y0 y1 y2 y3, LeO (span_Union.l0 k y0 y1 y2 y3) (span_Union.l0 (k + 1) y0 y1 y2 y3)) ∧ (∀ y0 y1 y2 y3 y4 y5 y6, LeO (span_Union.l1 k y0 y1 y2 y3 y4 y5 y6) (span_Union.l1 (k + 1) y0 y1 y2 y3 y4 y5 y6)) ∧ (∀ y0 y1 y2 y3, LeO (span_Union.l2 k y0 y1 y2 y3) (span_Union.l2 (k + 1) y0 y1 y2 y3))
 | 0 => ⟨fun _ _ _ _ r h => by simp [span_Union.l0] at h, fun _ _ _ _ _ _ _ r h => by simp [span_Union.l1] at h, fun _ _ _ _ r h => by simp [span_Union.l2] at h⟩
 | k + 1 => by
  obtain ⟨ih0, ih1, ih2⟩ := span_Union.mono_l k
  refine ⟨?_, ?_, ?_⟩
  ·intro y0 y1 y2 y3
   unfold span_Union.l0
   repeat' first
   | (with_reducible exact ih0 _ _ _ _)
   | (with_reducible exact ih1 _ _ _ _ _ _ _)
   | (with_reducible exact ih2 _ _ _ _)
   | (with_reducible exact LeO.refl _)
   | (with_reducible exact LeO.none _)
   | (with_reducible refine LeO.ite ?_ ?_)
   | (with_reducible refine LeO.bind ?_ (fun _ => ?_))
   | exact ih0 _ _ _ _
   | exact ih1 _ _ _ _ _ _ _
   | exact ih2 _ _ _ _
   | exact LeO.none _
   | refine LeO.ite ?_ ?_
   | refine LeO.bind ?_ (fun _ => ?_)
  ·intro y0 y1 y2 y3 y4 y5 y6
   unfold span_Union.l1
   repeat' first
   | (with_reducible exact ih0 _ _ _ _)
   | (with_reducible exact ih1 _ _ _ _ _ _ _)
   | (with_reducible exact ih2 _ _ _ _)
   | (with_reducible exact LeO.refl _)
   | (with_reducible exact LeO.none _)
   | (with_reducible refine LeO.ite ?_ ?_)
   | (with_reducible refine LeO.bind ?_ (fun _ => ?_))
   | exact ih0 _ _ _ _
   | exact ih1 _ _ _ _ _ _ _
   | exact ih2 _ _ _ _
   | exact LeO.none _
   | refine LeO.ite ?_ ?_
   | refine LeO.bind ?_ (fun _ => ?_)
  ·intro y0 y1 y2 y3
   unfold span_Union.l2
   repeat' first
   | (with_reducible exact ih0 _ _ _ _)
   | (with_reducible exact ih1 _ _ _ _ _ _ _)
   | (with_reducible exact ih2 _ _ _ _)
   | (with_reducible exact LeO.refl _)
   | (with_reducible exact LeO.none _)
   | (with_reducible refine LeO.ite ?_ ?_)
   | (with_reducible refine LeO.bind ?_ (fun _ => ?_))
   | exact ih0 _ _ _ _
   | exact ih1 _ _ _ _ _ _ _
   | exact ih2 _ _ _ _
   | exact LeO.none _
   | refine LeO.ite ?_ ?_
   | refine LeO.bind ?_ (fun _ => ?_)
theorem span_Union.mono : ∀ a0 k, LeO (span_Union.f k a0) (span_Union.f (k + 1) a0) := by
 intro a0 k
 obtain ⟨ih0, ih1, ih2⟩ := span_Union.mono_l k
 unfold span_Union.f
 repeat' first
   | (with_reducible exact ih0 _ _ _ _)
   | (with_reducible exact ih1 _ _ _ _ _ _ _)
   | (with_reducible exact ih2 _ _ _ _)
   | (with_reducible exact LeO.refl _)
   | (with_reducible exact LeO.none _)
   | (with_reducible refine LeO.ite ?_ ?_)
   | (with_reducible refine LeO.bind ?_ (fun _ => ?_))
   | exact ih0 _ _ _ _
   | exact ih1 _ _ _ _ _ _ _
   | exact ih2 _ _ _ _
   | exact LeO.none _
   | refine LeO.ite ?_ ?_
   | refine LeO.bind ?_ (fun _ => ?_)
set_option maxHeartbeats 8000000 in
set_option maxRecDepth 100000 in
theorem span_Union.calls (k : Nat) (A0 : Option Addr) (c0 : Nat) (l0 : List (List (S32))) (r : List (S32)) (w : World) (hr0 : Kd.C (Kd.slice 32 k32) w A0 l0.length l0) (hc0 : l0.length ≤ c0) (h : span_Union.f k l0 = some r) :
  Calls Tryd.prog 21 #[.slice A0 l0.length c0] w fun e w' => ∃ v0_ : Value, e = .returned (v0_) ∧ Kd.R k32 32 w' w.heap.size (fun _ => True) v0_ r ∧ Below w.heap.size w w' := by
 have hu32 := Tryd.underlying32
 have HR0 := Aside0.mk hr0
 have HC0 := Aside0.mk hc0
 clear hr0 hc0
 have HB := Aside0.mk (Below.refl w.heap.size w)
 have H : (span_Union.l0 k ([] : List (S32)) l0 (l0.length : Int) 0) = some r := h
 clear h
 have H' := Aside0.mk H
 clear H
 go_enter Tryd.func21, Tryd.ntmps21
 go_wp2
 go_loopg [3, 15] k (fun kq v3 v15 w' => ∃ (x3_1 : List (S32)) (x15_1 : Int), v15 = .int .i64 x15_1 ∧ Aside0 (span_Union.l0 kq x3_1 l0 (l0.length : Int) x15_1 = some r) ∧ Aside0 (kq ≤ k) ∧ Aside0 (Kd.R k32 32 w' w.heap.size (fun _ => True) v3 x3_1) ∧ Aside0 (Below w.heap.size w w'))
 case atStart => exact ⟨(([] : List (S32))), (0), (by first | rfl | (simp; done) | (simp [*]; done)), H', ⟨Nat.le_refl _⟩, ⟨by first | exact Kd.R_nil _ _ _ _ _ | exact Kd.N_nil _ _ _ _ _ | exact Kd.V_nil _ _ _ _ _ | exact Kd.Q_nil _ _ _ _ _ | exact Kd.S_nil _ _ _ _ _⟩, ⟨by repeat (first | (with_reducible first | exact HB.out | apply below_alloc | apply pw_below_drewN | apply below_drew1) | exact HB.out)⟩⟩
 case round =>
  clear H'
  obtain ⟨x3_1, x15_1, rfl, HA, HK1, HO_3, HB⟩ := hrel
  cases gk with
  | zero => exact absurd HA.out (by simp [span_Union.l0])
  | succ k1 =>
   have H := HA.out
   clear HA
   simp only [span_Union.l0] at H
   by_cases c2 : x15_1 < (l0.length : Int)
   ·rw [if_pos c2] at H
    have c2b0 : decide (x15_1 < (l0.length : Int)) = true := decide_eq_true c2
    clear c2
    by_cases c3 : 0 ≤ x15_1
    ·rw [if_pos c3] at H
     have c3b0 : decide (0 ≤ x15_1) = true := decide_eq_true c3
     clear c3
     by_cases c4 : x15_1 < (l0.length : Int)
     ·rw [if_pos c4] at H
      have c4b0 : decide (x15_1 < (l0.length : Int)) = true := decide_eq_true c4
      clear c4
      have H' := Aside0.mk H
      clear H
      have p113 : 0 ≤ (x15_1 : Int) := of_decide_eq_true (by first | (with_reducible assumption) | assumption)
      have q113 : x15_1 < (l0.length : Int) := of_decide_eq_true (by first | (with_reducible assumption) | assumption)
      obtain ⟨ad113, A113_0, c113_0, e113, hx113_0, hl113_0, hi113_0⟩ := at_L2 HR0.out x15_1 p113 q113
      cases e113
      replace hx113_0 := (HB.out.cell (World.block_lt_of_cell? w _ hx113_0)).trans hx113_0
      have HR113_0 := Aside0.mk hi113_0
      have HC113_0 := Aside0.mk hl113_0
      clear hi113_0 hl113_0
      replace p113 := eq_true p113
      replace q113 := eq_true q113
      go_wp2
      go_loopg [3, 21] k1 (fun kq v3 v21 w' => ∃ (x3_2 : List (S32)) (x21_2 : Int), v21 = .int .i64 x21_2 ∧ Aside0 (span_Union.l1 kq x3_2 l0 (l0.length : Int) x15_1 (rd_L2 l0 x15_1) ((rd_L2 l0 x15_1).length : Int) x21_2 = some r) ∧ Aside0 (kq ≤ k1) ∧ Aside0 (Kd.R k32 32 w' w.heap.size (fun _ => True) v3 x3_2) ∧ Aside0 (Below w.heap.size w w'))
      case atStart => exact ⟨(x3_1), (0), (by first | rfl | (simp; done) | (simp [*]; done)), H', ⟨Nat.le_refl _⟩, ⟨by (with_reducible repeat (first | apply Kd.R_alloc | apply Kd.R_drewN | apply Kd.R_drew)); exact HO_3.out⟩, ⟨by repeat (first | (with_reducible first | exact HB.out | apply below_alloc | apply pw_below_drewN | apply below_drew1) | exact HB.out)⟩⟩
      case round =>
       clear H'
       try clear c1
       try clear p1
       try clear q1
       try clear hx1
       try clear c2
       try clear c2b0
       try clear p2
       try clear c3
       try clear c3b0
       try clear c4
       try clear c4b0
       try clear hx113_0
       try clear p113
       try clear q113
       obtain ⟨x3_2, x21_2, rfl, HA, HK2, HO_3, HB⟩ := hrel
       cases gk with
       | zero => exact absurd HA.out (by simp [span_Union.l1])
       | succ k2 =>
        have H := HA.out
        clear HA
        simp only [span_Union.l1] at H
        by_cases c5 : x21_2 < ((rd_L2 l0 x15_1).length : Int)
        ·rw [if_pos c5] at H
         have c5b0 : decide (x21_2 < ((rd_L2 l0 x15_1).length : Int)) = true := decide_eq_true c5
         clear c5
         by_cases c6 : 0 ≤ x21_2
         ·rw [if_pos c6] at H
          have c6b0 : decide (0 ≤ x21_2) = true := decide_eq_true c6
          clear c6
          by_cases c7 : x21_2 < ((rd_L2 l0 x15_1).length : Int)
          ·rw [if_pos c7] at H
           have c7b0 : decide (x21_2 < ((rd_L2 l0 x15_1).length : Int)) = true := decide_eq_true c7
           clear c7
           replace H := Option.bind_eq_some_iff.mp H
           obtain ⟨⟨t116, t117, t118⟩, A80, H⟩ := H
           replace H : (if t118 = true then (if x3_2.length < 8796093022208 then (span_Union.l1 k2 (x3_2 ++ [(⟨t116, t117⟩ : S32)]) l0 (l0.length : Int) x15_1 (rd_L2 l0 x15_1) ((rd_L2 l0 x15_1).length : Int) (wrap64 (x21_2 + 1))) else (none)) else (span_Union.l1 k2 x3_2 l0 (l0.length : Int) x15_1 (rd_L2 l0 x15_1) ((rd_L2 l0 x15_1).length : Int) (wrap64 (x21_2 + 1)))) = some r := H
           have A8 := Aside0.mk A80
           clear A80
           by_cases c9 : t118 = true
           ·subst c9
            have H1 : (if x3_2.length < 8796093022208 then (span_Union.l1 k2 (x3_2 ++ [(⟨t116, t117⟩ : S32)]) l0 (l0.length : Int) x15_1 (rd_L2 l0 x15_1) ((rd_L2 l0 x15_1).length : Int) (wrap64 (x21_2 + 1))) else (none)) = some r := by rw [if_pos rfl] at H; exact H
            clear H
            have H := H1
            clear H1
            by_cases c10 : x3_2.length < 8796093022208
            ·rw [if_pos c10] at H
             have LMc10 := Aside0.mk c10
             clear c10
             obtain ⟨y120, hy120⟩ : ∃ y_ : List (S32), y_ = (x3_2 ++ [(⟨t116, t117⟩ : S32)]) := ⟨_, rfl⟩
             replace H : (span_Union.l1 k2 y120 l0 (l0.length : Int) x15_1 (rd_L2 l0 x15_1) ((rd_L2 l0 x15_1).length : Int) (wrap64 (x21_2 + 1))) = some r := by first | (rw [hy120]; with_reducible exact H) | (have H2_ := (Option.bind_some _ _).symm.trans H; rw [hy120]; with_reducible exact H2_) | (have H2_ := (Option.bind_some _ _).symm.trans H; with_reducible exact H2_) | with_reducible exact H | (rw [hy120]; exact H) | exact H
             have Ny120 := Aside0.mk hy120
             clear hy120
             have H' := Aside0.mk H
             clear H
             have p114 : 0 ≤ (x21_2 : Int) := of_decide_eq_true (by first | (with_reducible assumption) | assumption)
             have q114 : x21_2 < ((rd_L2 l0 x15_1).length : Int) := of_decide_eq_true (by first | (with_reducible assumption) | assumption)
             obtain ⟨ad114, e114, hx114_0, hx114_1⟩ := at_T32 HR113_0.out x21_2 p114 q114
             cases e114
             replace hx114_0 := (HB.out.cell (World.block_lt_of_cell? w _ hx114_0)).trans hx114_0
             replace hx114_1 := (HB.out.cell (World.block_lt_of_cell? w _ hx114_1)).trans hx114_1
             replace p114 := eq_true p114
             replace q114 := eq_true q114
             go_wp2_with (first | ((with_reducible refine gate_dst (N := 7) rfl ?_); refine box_event ?hg (N := 7) ?hd (cs := #[.int .i64 0, .int .i64 0]) (t := 32) ?hr ?_; (case hd => rfl); (case hg => rfl); (case hr => first | (go_simp; done) | (go_simp; rfl)); intro gb115 hg w11 hbox hb; have n0_ := Aside0.mk (Kd.R_below (Kd.R_elderB (by (with_reducible repeat (first | apply Kd.R_alloc | apply Kd.R_drewN | apply Kd.R_drew)); exact HO_3.out) gb115 (Nat.le_of_eq hg.symm)) hb); have n1_ := Aside0.mk (below_step (by repeat (first | (with_reducible first | exact HB.out | apply below_alloc | apply pw_below_drewN | apply below_drew1) | exact HB.out)) hb); have n2_ := Aside0.mk (hbox); have n3_ := Aside0.mk ((by rw [hg]; exact (below_size (by repeat (first | (with_reducible first | exact HB.out | apply below_alloc | apply pw_below_drewN | apply below_drew1) | exact HB.out))) : w.heap.size ≤ gb115)); have n4_ := Aside0.mk ((by rw [hg]; exact (below_size (by repeat (first | (with_reducible first | exact HB.out | apply below_alloc | apply pw_below_drewN | apply below_drew1) | exact HB.out))) : w.heap.size ≤ gb115)); clear HO_3; clear HB; have HO_3 := n0_; have HB := n1_; have BK115 := n2_; have GW115 := n3_; have GE115 := n4_; clear n0_ n1_ n2_ n3_ n4_; clear hb hbox hg; have hcz12_0 : w11.cell? ⟨gb115, 0, none⟩ = some (.int .i64 0) := (blk_cell BK115.out 0).trans rfl; have hcz12_1 : w11.cell? ⟨gb115, 1, none⟩ = some (.int .i64 0) := (blk_cell BK115.out 1).trans rfl; have hfz12_0 := blk_frozen BK115.out 0; have hfz12_1 := blk_frozen BK115.out 1) | ((with_reducible refine gate_callee (f := 30) rfl ?_); refine goesL_ (some 27) rfl rfl Tryd.func30 (by kernel_rfl) rfl #[.agg #[.int .i64 ((rd_T32 (rd_L2 l0 x15_1) x21_2).f0), .int .i64 ((rd_T32 (rd_L2 l0 x15_1) x21_2).f1)]] rfl (by (try simp only [List.map_toArray, List.map_cons, List.map_nil]); first | done | rfl | (simp only [List.length_drop, List.length_take]; rfl)) ?_; (with_reducible refine (span_clip.calls ((rd_T32 (rd_L2 l0 x15_1) x21_2).f0) ((rd_T32 (rd_L2 l0 x15_1) x21_2).f1) t116 t117 true _ A8.out).mono ?_); rintro e w13 ⟨rfl, hb⟩; refine ⟨_, rfl, ?_⟩; have n0_ := Aside0.mk (Kd.R_below (by (with_reducible repeat (first | apply Kd.R_alloc | apply Kd.R_drewN | apply Kd.R_drew)); exact (Kd.R_mono (Kd.R_far (p := ⟨gb115, 1, none⟩) (Kd.R_far (p := ⟨gb115, 0, none⟩) (Kd.R_mono HO_3.out (fun k_ hk => (⟨hk, hk.2⟩ : _ ∧ k_ ≠ gb115))) (fun _ hk => hk.2) (.int .i64 ((rd_T32 (rd_L2 l0 x15_1) x21_2).f0))) (fun _ hk => hk.2) (.int .i64 ((rd_T32 (rd_L2 l0 x15_1) x21_2).f1))) (fun _ h_ => h_.1))) hb); have n1_ := Aside0.mk (blk_below (g := gb115) (o := .cells #[.int .i64 ((rd_T32 (rd_L2 l0 x15_1) x21_2).f0), .int .i64 ((rd_T32 (rd_L2 l0 x15_1) x21_2).f1)] 32 (0, 0)) (by (with_reducible repeat (first | refine blk_drewN ?_ _ | refine blk_drew ?_ | refine blk_alloc ?_ _)); refine blk_put (cs := #[.int .i64 ((rd_T32 (rd_L2 l0 x15_1) x21_2).f0), .int .i64 0]) ?_ 1 _ rfl; (with_reducible repeat (first | refine blk_drewN ?_ _ | refine blk_drew ?_ | refine blk_alloc ?_ _)); refine blk_put (cs := #[.int .i64 0, .int .i64 0]) ?_ 0 _ rfl; (with_reducible repeat (first | refine blk_drewN ?_ _ | refine blk_drew ?_ | refine blk_alloc ?_ _)); exact BK115.out) hb); have n2_ := Aside0.mk (below_step (by repeat (first | (with_reducible first | exact HB.out | apply below_alloc | apply pw_below_drewN | apply below_drew1 | refine below_set ?_ GE115.out) | exact HB.out)) hb); clear HO_3; clear BK115; clear HB; have HO_3 := n0_; have BK115 := n1_; have HB := n2_; clear n0_ n1_ n2_; (try clear hb); (try clear hb2); (try clear hk); (try clear hi)) | ((with_reducible refine gate_dst (N := 8) rfl ?_); refine box_event ?hg (N := 8) ?hd (cs := #[.int .i64 0, .int .i64 0]) (t := 32) ?hr ?_; (case hd => rfl); (case hg => rfl); (case hr => first | (go_simp; done) | (go_simp; rfl)); intro gb119 hg w14 hbox hb; have n0_ := Aside0.mk (Kd.R_below (Kd.R_elderB (by (with_reducible repeat (first | apply Kd.R_alloc | apply Kd.R_drewN | apply Kd.R_drew)); exact HO_3.out) gb119 (Nat.le_of_eq hg.symm)) hb); have n1_ := Aside0.mk (blk_below (g := gb115) (o := .cells #[.int .i64 ((rd_T32 (rd_L2 l0 x15_1) x21_2).f0), .int .i64 ((rd_T32 (rd_L2 l0 x15_1) x21_2).f1)] 32 (0, 0)) (by (with_reducible repeat (first | refine blk_drewN ?_ _ | refine blk_drew ?_ | refine blk_alloc ?_ _)); exact BK115.out) hb); have n2_ := Aside0.mk (below_step (by repeat (first | (with_reducible first | exact HB.out | apply below_alloc | apply pw_below_drewN | apply below_drew1 | refine below_set ?_ GE115.out) | exact HB.out)) hb); have n3_ := Aside0.mk (hbox); have n4_ := Aside0.mk ((by rw [hg]; exact (below_size (by repeat (first | (with_reducible first | exact HB.out | apply below_alloc | apply pw_below_drewN | apply below_drew1 | refine below_set ?_ GE115.out) | exact HB.out))) : w.heap.size ≤ gb119)); have n5_ := Aside0.mk ((by rw [hg]; exact (below_size (by repeat (first | (with_reducible first | exact HB.out | apply below_alloc | apply pw_below_drewN | apply below_drew1 | refine below_set ?_ GE115.out) | exact HB.out))) : w.heap.size ≤ gb119)); have n6_ := Aside0.mk ((by rw [hg]; exact Nat.ne_of_lt (blk_lt (g := gb115) (o := .cells #[.int .i64 ((rd_T32 (rd_L2 l0 x15_1) x21_2).f0), .int .i64 ((rd_T32 (rd_L2 l0 x15_1) x21_2).f1)] 32 (0, 0)) (by (with_reducible repeat (first | refine blk_drewN ?_ _ | refine blk_drew ?_ | refine blk_alloc ?_ _)); exact BK115.out)) : gb115 ≠ gb119)); have n7_ := Aside0.mk ((by rw [hg]; exact Nat.ne_of_gt (blk_lt (g := gb115) (o := .cells #[.int .i64 ((rd_T32 (rd_L2 l0 x15_1) x21_2).f0), .int .i64 ((rd_T32 (rd_L2 l0 x15_1) x21_2).f1)] 32 (0, 0)) (by (with_reducible repeat (first | refine blk_drewN ?_ _ | refine blk_drew ?_ | refine blk_alloc ?_ _)); exact BK115.out)) : gb119 ≠ gb115)); clear HO_3; clear BK115; clear HB; have HO_3 := n0_; have BK115 := n1_; have HB := n2_; have BK119 := n3_; have GW119 := n4_; have GE119 := n5_; have NB115_119 := n6_; have NB119_115 := n7_; clear n0_ n1_ n2_ n3_ n4_ n5_ n6_ n7_; clear hb hbox hg; have hnb15 := NB119_115.out; have hnc15 := NB115_119.out; have hcz16_0 : w14.cell? ⟨gb119, 0, none⟩ = some (.int .i64 0) := (blk_cell BK119.out 0).trans rfl; have hcz16_1 : w14.cell? ⟨gb119, 1, none⟩ = some (.int .i64 0) := (blk_cell BK119.out 1).trans rfl; have hfz16_0 := blk_frozen BK119.out 0; have hfz16_1 := blk_frozen BK119.out 1) | ((with_reducible refine gate_builtin (b := .append) (xs := #[.tmp 31, .tmp 33]) rfl ?_); at_builtin; refine Kd.R_append k32 (w0 := w) w.heap.size rfl (.tmp 31) (.tmp 33) 22 32 (.agg #[(.int .i64 0), (.int .i64 0)]) 16 rfl Tryd.underlying22 info32 rfl (by decide) (by omega) u3 x3_2 (⟨t116, t117⟩ : S32) [.int .i64 t116, .int .i64 t117] (fun k_ => k_ ≠ gb115 ∧ k_ ≠ gb119) (fun _ => False) rfl (by first | (go_simp; done) | (go_simp; rfl)) ?aP (fun _ hk => hk.elim) ?aF ?aO ?aB ?aS ?aL ?_; (case aP => exact k32_mkM _ _ _ (⟨t116, t117⟩ : S32)); (case aB => exact (by repeat (first | (with_reducible first | exact HB.out | apply below_alloc | apply pw_below_drewN | apply below_drew1 | refine below_set ?_ GE115.out | refine below_set ?_ GE119.out) | exact HB.out))); (case aF => exact (fun k_ hk => ⟨Kd.freshB (g := gb115) (o := .cells #[.int .i64 ((rd_T32 (rd_L2 l0 x15_1) x21_2).f0), .int .i64 ((rd_T32 (rd_L2 l0 x15_1) x21_2).f1)] 32 (0, 0)) (by (with_reducible repeat (first | refine blk_drewN ?_ _ | refine blk_drew ?_ | refine blk_alloc ?_ _)); refine blk_far ?_ NB115_119.out _; (with_reducible repeat (first | refine blk_drewN ?_ _ | refine blk_drew ?_ | refine blk_alloc ?_ _)); refine blk_far ?_ NB115_119.out _; (with_reducible repeat (first | refine blk_drewN ?_ _ | refine blk_drew ?_ | refine blk_alloc ?_ _)); exact BK115.out) k_ hk, Kd.freshB (g := gb119) (o := .cells #[.int .i64 t116, .int .i64 t117] 32 (0, 0)) (by (with_reducible repeat (first | refine blk_drewN ?_ _ | refine blk_drew ?_ | refine blk_alloc ?_ _)); refine blk_put (cs := #[.int .i64 t116, .int .i64 0]) ?_ 1 _ rfl; (with_reducible repeat (first | refine blk_drewN ?_ _ | refine blk_drew ?_ | refine blk_alloc ?_ _)); refine blk_put (cs := #[.int .i64 0, .int .i64 0]) ?_ 0 _ rfl; (with_reducible repeat (first | refine blk_drewN ?_ _ | refine blk_drew ?_ | refine blk_alloc ?_ _)); exact BK119.out) k_ hk⟩)); (case aO => exact (by (with_reducible repeat (first | apply Kd.R_alloc | apply Kd.R_drewN | apply Kd.R_drew)); exact Kd.R_mono (Kd.R_far (p := ⟨gb119, 1, none⟩) (Kd.R_far (p := ⟨gb119, 0, none⟩) (Kd.R_mono HO_3.out (fun k_ hk => (⟨hk, hk.2⟩ : _ ∧ k_ ≠ gb119))) (fun _ hk => hk.2) (.int .i64 t116)) (fun _ hk => hk.2) (.int .i64 t117)) (fun _ hk => ⟨hk.1.1.2, hk.1.2⟩))); (case aS => exact (below_size (by repeat (first | (with_reducible first | exact HB.out | apply below_alloc | apply pw_below_drewN | apply below_drew1 | refine below_set ?_ GE115.out | refine below_set ?_ GE119.out) | exact HB.out)))); (case aL => have := LMc10.out; omega); intro v121 w17 ho hb hg hat; rw [← Ny120.out] at ho; have n0_ := Aside0.mk (blk_grown (g := gb115) (o := .cells #[.int .i64 ((rd_T32 (rd_L2 l0 x15_1) x21_2).f0), .int .i64 ((rd_T32 (rd_L2 l0 x15_1) x21_2).f1)] 32 (0, 0)) (by (with_reducible repeat (first | refine blk_drewN ?_ _ | refine blk_drew ?_ | refine blk_alloc ?_ _)); refine blk_far ?_ NB115_119.out _; (with_reducible repeat (first | refine blk_drewN ?_ _ | refine blk_drew ?_ | refine blk_alloc ?_ _)); refine blk_far ?_ NB115_119.out _; (with_reducible repeat (first | refine blk_drewN ?_ _ | refine blk_drew ?_ | refine blk_alloc ?_ _)); exact BK115.out) hg (Kd.R_away HO_3.out (fun _ hk => hk.1.2))); have n1_ := Aside0.mk (blk_grown (g := gb119) (o := .cells #[.int .i64 t116, .int .i64 t117] 32 (0, 0)) (by (with_reducible repeat (first | refine blk_drewN ?_ _ | refine blk_drew ?_ | refine blk_alloc ?_ _)); refine blk_put (cs := #[.int .i64 t116, .int .i64 0]) ?_ 1 _ rfl; (with_reducible repeat (first | refine blk_drewN ?_ _ | refine blk_drew ?_ | refine blk_alloc ?_ _)); refine blk_put (cs := #[.int .i64 0, .int .i64 0]) ?_ 0 _ rfl; (with_reducible repeat (first | refine blk_drewN ?_ _ | refine blk_drew ?_ | refine blk_alloc ?_ _)); exact BK119.out) hg (Kd.R_away HO_3.out (fun _ hk => hk.2))); have n2_ := Aside0.mk (hb); have n3_ := Aside0.mk (ho); clear BK115; clear BK119; clear HB; clear HO_3; have BK115 := n0_; have BK119 := n1_; have HB := n2_; have HO122 := n3_; clear n0_ n1_ n2_ n3_; clear ho hb hg hat))
             go_roundg k2
             case measure => have := HK1.out; have := HK2.out; omega
             case rel => exact ⟨(y120), (wrap64 (x21_2 + 1)), (by first | rfl | (simp; done) | (simp [*]; done)), H', ⟨by have := HK1.out; have := HK2.out; omega⟩, ⟨by (with_reducible repeat (first | apply Kd.R_alloc | apply Kd.R_drewN | apply Kd.R_drew)); exact Kd.R_mono HO122.out (fun _ hk => trivial)⟩, ⟨by repeat (first | (with_reducible first | exact HB.out | apply below_alloc | apply pw_below_drewN | apply below_drew1 | refine below_set ?_ GE115.out | refine below_set ?_ GE119.out) | exact HB.out)⟩⟩
            ·rw [if_neg c10] at H
             exact absurd H (by simp)
           ·replace c9 := Bool.eq_false_iff.mpr c9
            subst c9
            have H1 : (span_Union.l1 k2 x3_2 l0 (l0.length : Int) x15_1 (rd_L2 l0 x15_1) ((rd_L2 l0 x15_1).length : Int) (wrap64 (x21_2 + 1))) = some r := by rw [if_neg (show ¬ (false = true) by decide)] at H; exact H
            clear H
            have H := H1
            clear H1
            have H' := Aside0.mk H
            clear H
            have p114 : 0 ≤ (x21_2 : Int) := of_decide_eq_true (by first | (with_reducible assumption) | assumption)
            have q114 : x21_2 < ((rd_L2 l0 x15_1).length : Int) := of_decide_eq_true (by first | (with_reducible assumption) | assumption)
            obtain ⟨ad114, e114, hx114_0, hx114_1⟩ := at_T32 HR113_0.out x21_2 p114 q114
            cases e114
            replace hx114_0 := (HB.out.cell (World.block_lt_of_cell? w _ hx114_0)).trans hx114_0
            replace hx114_1 := (HB.out.cell (World.block_lt_of_cell? w _ hx114_1)).trans hx114_1
            replace p114 := eq_true p114
            replace q114 := eq_true q114
            go_wp2_with (first | ((with_reducible refine gate_dst (N := 7) rfl ?_); refine box_event ?hg (N := 7) ?hd (cs := #[.int .i64 0, .int .i64 0]) (t := 32) ?hr ?_; (case hd => rfl); (case hg => rfl); (case hr => first | (go_simp; done) | (go_simp; rfl)); intro gb115 hg w18 hbox hb; have n0_ := Aside0.mk (Kd.R_below (Kd.R_elderB (by (with_reducible repeat (first | apply Kd.R_alloc | apply Kd.R_drewN | apply Kd.R_drew)); exact HO_3.out) gb115 (Nat.le_of_eq hg.symm)) hb); have n1_ := Aside0.mk (below_step (by repeat (first | (with_reducible first | exact HB.out | apply below_alloc | apply pw_below_drewN | apply below_drew1) | exact HB.out)) hb); have n2_ := Aside0.mk (hbox); have n3_ := Aside0.mk ((by rw [hg]; exact (below_size (by repeat (first | (with_reducible first | exact HB.out | apply below_alloc | apply pw_below_drewN | apply below_drew1) | exact HB.out))) : w.heap.size ≤ gb115)); have n4_ := Aside0.mk ((by rw [hg]; exact (below_size (by repeat (first | (with_reducible first | exact HB.out | apply below_alloc | apply pw_below_drewN | apply below_drew1) | exact HB.out))) : w.heap.size ≤ gb115)); clear HO_3; clear HB; have HO_3 := n0_; have HB := n1_; have BK115 := n2_; have GW115 := n3_; have GE115 := n4_; clear n0_ n1_ n2_ n3_ n4_; clear hb hbox hg; have hcz19_0 : w18.cell? ⟨gb115, 0, none⟩ = some (.int .i64 0) := (blk_cell BK115.out 0).trans rfl; have hcz19_1 : w18.cell? ⟨gb115, 1, none⟩ = some (.int .i64 0) := (blk_cell BK115.out 1).trans rfl; have hfz19_0 := blk_frozen BK115.out 0; have hfz19_1 := blk_frozen BK115.out 1) | ((with_reducible refine gate_callee (f := 30) rfl ?_); refine goesL_ (some 27) rfl rfl Tryd.func30 (by kernel_rfl) rfl #[.agg #[.int .i64 ((rd_T32 (rd_L2 l0 x15_1) x21_2).f0), .int .i64 ((rd_T32 (rd_L2 l0 x15_1) x21_2).f1)]] rfl (by (try simp only [List.map_toArray, List.map_cons, List.map_nil]); first | done | rfl | (simp only [List.length_drop, List.length_take]; rfl)) ?_; (with_reducible refine (span_clip.calls ((rd_T32 (rd_L2 l0 x15_1) x21_2).f0) ((rd_T32 (rd_L2 l0 x15_1) x21_2).f1) t116 t117 false _ A8.out).mono ?_); rintro e w20 ⟨rfl, hb⟩; refine ⟨_, rfl, ?_⟩; have n0_ := Aside0.mk (Kd.R_below (by (with_reducible repeat (first | apply Kd.R_alloc | apply Kd.R_drewN | apply Kd.R_drew)); exact (Kd.R_mono (Kd.R_far (p := ⟨gb115, 1, none⟩) (Kd.R_far (p := ⟨gb115, 0, none⟩) (Kd.R_mono HO_3.out (fun k_ hk => (⟨hk, hk.2⟩ : _ ∧ k_ ≠ gb115))) (fun _ hk => hk.2) (.int .i64 ((rd_T32 (rd_L2 l0 x15_1) x21_2).f0))) (fun _ hk => hk.2) (.int .i64 ((rd_T32 (rd_L2 l0 x15_1) x21_2).f1))) (fun _ h_ => h_.1))) hb); have n1_ := Aside0.mk (blk_below (g := gb115) (o := .cells #[.int .i64 ((rd_T32 (rd_L2 l0 x15_1) x21_2).f0), .int .i64 ((rd_T32 (rd_L2 l0 x15_1) x21_2).f1)] 32 (0, 0)) (by (with_reducible repeat (first | refine blk_drewN ?_ _ | refine blk_drew ?_ | refine blk_alloc ?_ _)); refine blk_put (cs := #[.int .i64 ((rd_T32 (rd_L2 l0 x15_1) x21_2).f0), .int .i64 0]) ?_ 1 _ rfl; (with_reducible repeat (first | refine blk_drewN ?_ _ | refine blk_drew ?_ | refine blk_alloc ?_ _)); refine blk_put (cs := #[.int .i64 0, .int .i64 0]) ?_ 0 _ rfl; (with_reducible repeat (first | refine blk_drewN ?_ _ | refine blk_drew ?_ | refine blk_alloc ?_ _)); exact BK115.out) hb); have n2_ := Aside0.mk (below_step (by repeat (first | (with_reducible first | exact HB.out | apply below_alloc | apply pw_below_drewN | apply below_drew1 | refine below_set ?_ GE115.out) | exact HB.out)) hb); clear HO_3; clear BK115; clear HB; have HO_3 := n0_; have BK115 := n1_; have HB := n2_; clear n0_ n1_ n2_; (try clear hb); (try clear hb2); (try clear hk); (try clear hi)) | ((with_reducible refine gate_dst (N := 8) rfl ?_); refine box_event ?hg (N := 8) ?hd (cs := #[.int .i64 0, .int .i64 0]) (t := 32) ?hr ?_; (case hd => rfl); (case hg => rfl); (case hr => first | (go_simp; done) | (go_simp; rfl)); intro gb119 hg w21 hbox hb; have n0_ := Aside0.mk (Kd.R_below (Kd.R_elderB (by (with_reducible repeat (first | apply Kd.R_alloc | apply Kd.R_drewN | apply Kd.R_drew)); exact HO_3.out) gb119 (Nat.le_of_eq hg.symm)) hb); have n1_ := Aside0.mk (blk_below (g := gb115) (o := .cells #[.int .i64 ((rd_T32 (rd_L2 l0 x15_1) x21_2).f0), .int .i64 ((rd_T32 (rd_L2 l0 x15_1) x21_2).f1)] 32 (0, 0)) (by (with_reducible repeat (first | refine blk_drewN ?_ _ | refine blk_drew ?_ | refine blk_alloc ?_ _)); exact BK115.out) hb); have n2_ := Aside0.mk (below_step (by repeat (first | (with_reducible first | exact HB.out | apply below_alloc | apply pw_below_drewN | apply below_drew1 | refine below_set ?_ GE115.out) | exact HB.out)) hb); have n3_ := Aside0.mk (hbox); have n4_ := Aside0.mk ((by rw [hg]; exact (below_size (by repeat (first | (with_reducible first | exact HB.out | apply below_alloc | apply pw_below_drewN | apply below_drew1 | refine below_set ?_ GE115.out) | exact HB.out))) : w.heap.size ≤ gb119)); have n5_ := Aside0.mk ((by rw [hg]; exact (below_size (by repeat (first | (with_reducible first | exact HB.out | apply below_alloc | apply pw_below_drewN | apply below_drew1 | refine below_set ?_ GE115.out) | exact HB.out))) : w.heap.size ≤ gb119)); have n6_ := Aside0.mk ((by rw [hg]; exact Nat.ne_of_lt (blk_lt (g := gb115) (o := .cells #[.int .i64 ((rd_T32 (rd_L2 l0 x15_1) x21_2).f0), .int .i64 ((rd_T32 (rd_L2 l0 x15_1) x21_2).f1)] 32 (0, 0)) (by (with_reducible repeat (first | refine blk_drewN ?_ _ | refine blk_drew ?_ | refine blk_alloc ?_ _)); exact BK115.out)) : gb115 ≠ gb119)); have n7_ := Aside0.mk ((by rw [hg]; exact Nat.ne_of_gt (blk_lt (g := gb115) (o := .cells #[.int .i64 ((rd_T32 (rd_L2 l0 x15_1) x21_2).f0), .int .i64 ((rd_T32 (rd_L2 l0 x15_1) x21_2).f1)] 32 (0, 0)) (by (with_reducible repeat (first | refine blk_drewN ?_ _ | refine blk_drew ?_ | refine blk_alloc ?_ _)); exact BK115.out)) : gb119 ≠ gb115)); clear HO_3; clear BK115; clear HB; have HO_3 := n0_; have BK115 := n1_; have HB := n2_; have BK119 := n3_; have GW119 := n4_; have GE119 := n5_; have NB115_119 := n6_; have NB119_115 := n7_; clear n0_ n1_ n2_ n3_ n4_ n5_ n6_ n7_; clear hb hbox hg; have hnb22 := NB119_115.out; have hnc22 := NB115_119.out; have hcz23_0 : w21.cell? ⟨gb119, 0, none⟩ = some (.int .i64 0) := (blk_cell BK119.out 0).trans rfl; have hcz23_1 : w21.cell? ⟨gb119, 1, none⟩ = some (.int .i64 0) := (blk_cell BK119.out 1).trans rfl; have hfz23_0 := blk_frozen BK119.out 0; have hfz23_1 := blk_frozen BK119.out 1))
            go_roundg k2
            case measure => have := HK1.out; have := HK2.out; omega
            case rel => exact ⟨(x3_2), (wrap64 (x21_2 + 1)), (by first | rfl | (simp; done) | (simp [*]; done)), H', ⟨by have := HK1.out; have := HK2.out; omega⟩, ⟨by (with_reducible repeat (first | apply Kd.R_alloc | apply Kd.R_drewN | apply Kd.R_drew)); exact Kd.R_mono (Kd.R_far (p := ⟨gb119, 1, none⟩) (Kd.R_far (p := ⟨gb119, 0, none⟩) (Kd.R_mono HO_3.out (fun k_ hk => (⟨hk, hk.2⟩ : _ ∧ k_ ≠ gb119))) (fun _ hk => hk.2) (.int .i64 t116)) (fun _ hk => hk.2) (.int .i64 t117)) (fun _ hk => trivial)⟩, ⟨by repeat (first | (with_reducible first | exact HB.out | apply below_alloc | apply pw_below_drewN | apply below_drew1 | refine below_set ?_ GE115.out | refine below_set ?_ GE119.out) | exact HB.out)⟩⟩
          ·rw [if_neg c7] at H
           exact absurd H (by simp)
         ·rw [if_neg c6] at H
          exact absurd H (by simp)
        ·rw [if_neg c5] at H
         have c5b0 : decide (x21_2 < ((rd_L2 l0 x15_1).length : Int)) = false := decide_eq_false c5
         clear c5
         have H' := Aside0.mk H
         clear H
         go_wp2
         go_roundg k2
         case measure => have := HK1.out; have := HK2.out; omega
         case rel => exact ⟨(x3_2), (wrap64 (x15_1 + 1)), (by first | rfl | (simp; done) | (simp [*]; done)), H', ⟨by have := HK1.out; have := HK2.out; omega⟩, ⟨by (with_reducible repeat (first | apply Kd.R_alloc | apply Kd.R_drewN | apply Kd.R_drew)); exact HO_3.out⟩, ⟨by repeat (first | (with_reducible first | exact HB.out | apply below_alloc | apply pw_below_drewN | apply below_drew1) | exact HB.out)⟩⟩
     ·rw [if_neg c4] at H
      exact absurd H (by simp)
    ·rw [if_neg c3] at H
     exact absurd H (by simp)
   ·rw [if_neg c2] at H
    have c2b0 : decide (x15_1 < (l0.length : Int)) = false := decide_eq_false c2
    clear c2
    replace H := Option.bind_eq_some_iff.mp H
    obtain ⟨t123, A240, H⟩ := H
    replace H : (span_Union.l2 k1 ([] : List (S32)) t123 (x3_1.length : Int) 0) = some r := H
    have A24 := Aside0.mk A240
    clear A240
    have H' := Aside0.mk H
    clear H
    obtain ⟨Ao25, co25, eo25⟩ := Kd.R_slice HO_3.out
    subst eo25
    go_wp2_with (first | ((with_reducible refine gate_callee (f := 31) rfl ?_); refine goesL_ (some 38) rfl rfl Tryd.func31 (by kernel_rfl) rfl #[.slice Ao25 x3_1.length co25, .func (.func 32) #[] #[]] rfl (by (try simp only [List.map_toArray, List.map_cons, List.map_nil]); first | done | rfl | (simp only [List.length_drop, List.length_take]; rfl)) ?_; (with_reducible refine (api_Run.calls (fun k_ => some k_ = (.slice Ao25 x3_1.length co25 : Value).ownBlock) (.slice Ao25 x3_1.length co25) x3_1 t123 w _ ?side1 ?side2 A24.out).mono ?_); (case side1 => repeat (first | (with_reducible first | exact HB.out | apply below_alloc | apply pw_below_drewN | apply below_drew1) | exact HB.out)); (case side2 => exact Kd.R_tight rfl HO_3.out); rintro e w26 ⟨rfl, hy0, hb, hkp⟩; refine ⟨_, rfl, ?_⟩; have n0_ := Aside0.mk (Kd.R_reok rfl hy0 (fun k_ e_ => HO_3.out.1 k_ e_)); have n1_ := Aside0.mk (hb); clear HO_3; clear HB; have HO_3 := n0_; have HB := n1_; clear n0_ n1_; (try clear hb); (try clear hkp); (try clear hy0)))
    go_loopg [10, 41] k1 (fun kq v10 v41 w' => ∃ (x10_2 : List (S32)) (x41_2 : Int), v41 = .int .i64 x41_2 ∧ Aside0 (span_Union.l2 kq x10_2 t123 (x3_1.length : Int) x41_2 = some r) ∧ Aside0 (kq ≤ k1) ∧ Aside0 (Kd.R k32 32 w' w.heap.size (fun k_ => some k_ ≠ ((.slice Ao25 x3_1.length co25) : Value).ownBlock) v10 x10_2) ∧ Aside0 (Kd.R k32 32 w' w.heap.size (fun k_ => some k_ ≠ (v10 : Value).ownBlock) (.slice Ao25 x3_1.length co25) t123) ∧ Aside0 (Below w.heap.size w w'))
    case atStart => exact ⟨(([] : List (S32))), (0), (by first | rfl | (simp; done) | (simp [*]; done)), H', ⟨Nat.le_refl _⟩, ⟨by first | exact Kd.R_nil _ _ _ _ _ | exact Kd.N_nil _ _ _ _ _ | exact Kd.V_nil _ _ _ _ _ | exact Kd.Q_nil _ _ _ _ _ | exact Kd.S_nil _ _ _ _ _⟩, ⟨by (with_reducible repeat (first | apply Kd.R_alloc | apply Kd.R_drewN | apply Kd.R_drew)); exact Kd.R_mono HO_3.out (fun _ hk => (by simp [Value.ownBlock]))⟩, ⟨by repeat (first | (with_reducible first | exact HB.out | apply below_alloc | apply pw_below_drewN | apply below_drew1) | exact HB.out)⟩⟩
    case round =>
     clear H'
     try clear c1
     try clear p1
     try clear q1
     try clear hx1
     try clear c2
     try clear c2b0
     try clear p2
     try clear c3
     try clear c3b0
     try clear c4
     try clear c4b0
     try clear c5
     try clear c5b0
     try clear c6
     try clear c6b0
     try clear p6
     try clear c7
     try clear c7b0
     try clear c9
     try clear c10
     try clear c11
     try clear p11
     try clear q11
     try clear hx11
     try clear c15
     try clear c21
     try clear c22
     try clear hcz12_0
     try clear hcz12_1
     try clear hcz16_0
     try clear hcz16_1
     try clear hcz19_0
     try clear hcz19_1
     try clear hcz23_0
     try clear hcz23_1
     try clear hfz12_0
     try clear hfz12_1
     try clear hfz16_0
     try clear hfz16_1
     try clear hfz19_0
     try clear hfz19_1
     try clear hfz23_0
     try clear hfz23_1
     try clear hx113_0
     try clear hx114_0
     try clear hx114_1
     try clear p1
     try clear p113
     try clear p114
     try clear p2
     try clear q1
     try clear q113
     try clear q114
     obtain ⟨x10_2, x41_2, rfl, HA, HK2, HO_10, HO_39, HB⟩ := hrel
     have hl39_2 := (Kd.R_reads' HO_39.out).1
     rw [hl39_2] at HO_39
     (try simp only [hl39_2])
     (try simp only [hl39_2] at HO_10)
     cases gk with
     | zero => exact absurd HA.out (by simp [span_Union.l2])
     | succ k2 =>
      have H := HA.out
      clear HA
      simp only [span_Union.l2] at H
      by_cases c27 : x41_2 < (x3_1.length : Int)
      ·rw [if_pos c27] at H
       have c27b0 : decide (x41_2 < (x3_1.length : Int)) = true := decide_eq_true c27
       (try simp only [hl39_2] at c27b0)
       clear c27
       by_cases c28 : 0 ≤ x41_2
       ·rw [if_pos c28] at H
        have c28b0 : decide (0 ≤ x41_2) = true := decide_eq_true c28
        clear c28
        by_cases c29 : x41_2 < (t123.length : Int)
        ·rw [if_pos c29] at H
         have c29b0 : decide (x41_2 < (t123.length : Int)) = true := decide_eq_true c29
         (try simp only [hl39_2] at c29b0)
         clear c29
         replace H := Option.bind_eq_some_iff.mp H
         obtain ⟨t126, A300, H⟩ := H
         replace H : (span_Union.l2 k2 t126 t123 (x3_1.length : Int) (wrap64 (x41_2 + 1))) = some r := H
         have A30 := Aside0.mk A300
         clear A300
         have H' := Aside0.mk H
         clear H
         have p124 : 0 ≤ (x41_2 : Int) := of_decide_eq_true (by first | (with_reducible assumption) | assumption)
         have q124 : x41_2 < (t123.length : Int) := of_decide_eq_true (by first | (with_reducible assumption) | assumption)
         obtain ⟨ad124, e124, hx124_0, hx124_1⟩ := at_T32 (Kd.R_reads' HO_39.out).2.2 x41_2 p124 q124
         cases e124
         replace p124 := eq_true p124
         replace q124 := eq_true q124
         go_wp2_with (first | ((with_reducible refine gate_dst (N := 12) rfl ?_); refine box_event ?hg (N := 12) ?hd (cs := #[.int .i64 0, .int .i64 0]) (t := 32) ?hr ?_; (case hd => rfl); (case hg => rfl); (case hr => first | (go_simp; done) | (go_simp; rfl)); intro gb125 hg w31 hbox hb; have n0_ := Aside0.mk (Kd.R_below (Kd.R_elderB (by (with_reducible repeat (first | apply Kd.R_alloc | apply Kd.R_drewN | apply Kd.R_drew)); exact HO_10.out) gb125 (Nat.le_of_eq hg.symm)) hb); have n1_ := Aside0.mk (Kd.R_below (Kd.R_elderB (by (with_reducible repeat (first | apply Kd.R_alloc | apply Kd.R_drewN | apply Kd.R_drew)); exact HO_39.out) gb125 (Nat.le_of_eq hg.symm)) hb); have n2_ := Aside0.mk (below_step (by repeat (first | (with_reducible first | exact HB.out | apply below_alloc | apply pw_below_drewN | apply below_drew1) | exact HB.out)) hb); have n3_ := Aside0.mk (hbox); have n4_ := Aside0.mk ((by rw [hg]; exact (below_size (by repeat (first | (with_reducible first | exact HB.out | apply below_alloc | apply pw_below_drewN | apply below_drew1) | exact HB.out))) : w.heap.size ≤ gb125)); have n5_ := Aside0.mk ((by rw [hg]; exact (below_size (by repeat (first | (with_reducible first | exact HB.out | apply below_alloc | apply pw_below_drewN | apply below_drew1) | exact HB.out))) : w.heap.size ≤ gb125)); clear HO_10; clear HO_39; clear HB; have HO_10 := n0_; have HO_39 := n1_; have HB := n2_; have BK125 := n3_; have GW125 := n4_; have GE125 := n5_; clear n0_ n1_ n2_ n3_ n4_ n5_; clear hb hbox hg; have hcz32_0 : w31.cell? ⟨gb125, 0, none⟩ = some (.int .i64 0) := (blk_cell BK125.out 0).trans rfl; have hcz32_1 : w31.cell? ⟨gb125, 1, none⟩ = some (.int .i64 0) := (blk_cell BK125.out 1).trans rfl; have hfz32_0 := blk_frozen BK125.out 0; have hfz32_1 := blk_frozen BK125.out 1) | ((with_reducible refine gate_store (t := 32) (p := 12) rfl ?_); refine store_event (t := 32) (p := 12) (v := ?vo_w33) (w1 := ((w31.setCell ⟨gb125, 0, none⟩ (.int .i64 ((rd_T32 t123 x41_2).f0))).setCell ⟨gb125, 1, none⟩ (.int .i64 ((rd_T32 t123 x41_2).f1)))) ?hg ?ho ?hn ?hr ?_; (case ho => rfl); (case hg => rfl); (case hn => rfl); (case hr => first | (go_simp; done) | (go_simp; rfl)); intro w33 hw; have n0_ : Aside0 (Kd.R k32 32 w33 w.heap.size (fun k_ => some k_ ≠ (.slice (some ad124) t123.length co25 : Value).ownBlock ∧ k_ ≠ gb125) u10 x10_2) := ⟨(by rw [hw]; exact (by (with_reducible repeat (first | apply Kd.R_alloc | apply Kd.R_drewN | apply Kd.R_drew)); exact Kd.R_mono (Kd.R_far (p := ⟨gb125, 1, none⟩) (Kd.R_far (p := ⟨gb125, 0, none⟩) (Kd.R_mono HO_10.out (fun k_ hk => (⟨hk, hk.2⟩ : _ ∧ k_ ≠ gb125))) (fun _ hk => hk.2) (.int .i64 ((rd_T32 t123 x41_2).f0))) (fun _ hk => hk.2) (.int .i64 ((rd_T32 t123 x41_2).f1))) (fun _ hk => ⟨hk.1.1, hk.1.2⟩)))⟩; have n1_ : Aside0 (Kd.R k32 32 w33 w.heap.size (fun k_ => some k_ ≠ (u10 : Value).ownBlock ∧ k_ ≠ gb125) (.slice (some ad124) t123.length co25) t123) := ⟨(by rw [hw]; exact (by (with_reducible repeat (first | apply Kd.R_alloc | apply Kd.R_drewN | apply Kd.R_drew)); exact Kd.R_mono (Kd.R_far (p := ⟨gb125, 1, none⟩) (Kd.R_far (p := ⟨gb125, 0, none⟩) (Kd.R_mono HO_39.out (fun k_ hk => (⟨hk, hk.2⟩ : _ ∧ k_ ≠ gb125))) (fun _ hk => hk.2) (.int .i64 ((rd_T32 t123 x41_2).f0))) (fun _ hk => hk.2) (.int .i64 ((rd_T32 t123 x41_2).f1))) (fun _ hk => ⟨hk.1.1, hk.1.2⟩)))⟩; have n2_ : Aside0 (w33.heap[gb125]? = some (.cells #[.int .i64 ((rd_T32 t123 x41_2).f0), .int .i64 ((rd_T32 t123 x41_2).f1)] 32 (0, 0))) := ⟨(by rw [hw]; exact (by (with_reducible repeat (first | refine blk_drewN ?_ _ | refine blk_drew ?_ | refine blk_alloc ?_ _)); refine blk_put (cs := #[.int .i64 ((rd_T32 t123 x41_2).f0), .int .i64 0]) ?_ 1 _ rfl; (with_reducible repeat (first | refine blk_drewN ?_ _ | refine blk_drew ?_ | refine blk_alloc ?_ _)); refine blk_put (cs := #[.int .i64 0, .int .i64 0]) ?_ 0 _ rfl; (with_reducible repeat (first | refine blk_drewN ?_ _ | refine blk_drew ?_ | refine blk_alloc ?_ _)); exact BK125.out))⟩; have n3_ : Aside0 (Below w.heap.size w w33) := ⟨(by rw [hw]; exact (by repeat (first | (with_reducible first | exact HB.out | apply below_alloc | apply pw_below_drewN | apply below_drew1 | refine below_set ?_ GE125.out) | exact HB.out)))⟩; clear hw; clear HO_10; clear HO_39; clear BK125; clear HB; have HO_10 := n0_; have HO_39 := n1_; have BK125 := n2_; have HB := n3_; clear n0_ n1_ n2_ n3_; have hcz34_0 : w33.cell? ⟨gb125, 0, none⟩ = some (.int .i64 ((rd_T32 t123 x41_2).f0)) := (blk_cell BK125.out 0).trans rfl; have hcz34_1 : w33.cell? ⟨gb125, 1, none⟩ = some (.int .i64 ((rd_T32 t123 x41_2).f1)) := (blk_cell BK125.out 1).trans rfl; have hfz34_0 := blk_frozen BK125.out 0; have hfz34_1 := blk_frozen BK125.out 1; obtain ⟨Ao35, co35, eo35⟩ := Kd.R_slice HO_10.out; subst eo35) | ((with_reducible refine gate_callee (f := 33) rfl ?_); refine goesL_ (some 47) rfl rfl Tryd.func33 (by kernel_rfl) rfl #[.slice Ao35 x10_2.length co35, .agg #[.int .i64 ((rd_T32 t123 x41_2).f0), .int .i64 ((rd_T32 t123 x41_2).f1)]] rfl (by (try simp only [List.map_toArray, List.map_cons, List.map_nil]); first | done | rfl | (simp only [List.length_drop, List.length_take]; rfl)) ?_; (with_reducible refine (span_add.calls (fun k_ => some k_ = (.slice Ao35 x10_2.length co35 : Value).ownBlock) (.slice Ao35 x10_2.length co35) x10_2 ((rd_T32 t123 x41_2).f0) ((rd_T32 t123 x41_2).f1) t126 w _ ?side1 ?side2 A30.out).mono ?_); (case side1 => repeat (first | (with_reducible first | exact HB.out | apply below_alloc | apply pw_below_drewN | apply below_drew1 | refine below_set ?_ GE125.out) | exact HB.out)); (case side2 => exact Kd.R_tight rfl HO_10.out); rintro e w36 ⟨v127, rfl, ho0, hb, hkp⟩; refine ⟨_, rfl, ?_⟩; have n0_ := Aside0.mk (Kd.R_mono (ok' := fun k_ => k_ ≠ gb125 ∧ some k_ ≠ (v127 : Value).ownBlock) (Kd.R_keptB (HO_39.out) hkp (fun k_ hk_ hs_ => (hk_.1) hs_)) (fun k_ hk_ => ⟨hk_.1.2, fun e_ => Or.elim (ho0.1 k_ e_.symm) (fun hs_ => hk_.2.1 hs_) (fun hn_ => Nat.not_le.2 hk_.2.2 hn_)⟩)); have n1_ := Aside0.mk (blk_kept (by (with_reducible repeat (first | refine blk_drewN ?_ _ | refine blk_drew ?_ | refine blk_alloc ?_ _)); exact BK125.out) hkp (fun hs_ => (fun e_ => (Kd.R_away HO_10.out (fun _ hk => hk.2)) e_) hs_)); have n2_ := Aside0.mk (Kd.R_mono (ok' := fun k_ => some k_ ≠ (.slice (some ad124) t123.length co25 : Value).ownBlock ∧ k_ ≠ gb125) ho0 (fun k_ hk_ => ⟨Or.elim hk_ (fun hs_ => fun e_ => (((HO_39.out).1 k_ e_.symm).1) hs_) (fun hn_ => (Kd.fresh' (Kd.R_lt (by (with_reducible repeat (first | apply Kd.R_alloc | apply Kd.R_drewN | apply Kd.R_drew)); exact HO_39.out)) k_ hn_)), Or.elim hk_ (fun hs_ => fun e_ => (Kd.R_away HO_10.out (fun _ hk => hk.2)) (by rw [← e_]; exact hs_)) (fun hn_ => (Kd.freshB (g := gb125) (o := .cells #[.int .i64 ((rd_T32 t123 x41_2).f0), .int .i64 ((rd_T32 t123 x41_2).f1)] 32 (0, 0)) (by (with_reducible repeat (first | refine blk_drewN ?_ _ | refine blk_drew ?_ | refine blk_alloc ?_ _)); exact BK125.out) k_ hn_))⟩)); have n3_ := Aside0.mk (hb); clear HO_39; clear BK125; clear HB; clear HO_10; have HO_39 := n0_; have BK125 := n1_; have HO128 := n2_; have HB := n3_; clear n0_ n1_ n2_ n3_; (try clear hb); (try clear hkp); (try clear ho0)))
         (try simp only [← hl39_2])
         go_roundg k2
         case measure => have := HK1.out; have := HK2.out; omega
         case rel => exact ⟨(t126), (wrap64 (x41_2 + 1)), (by first | rfl | (simp; done) | (simp [*]; done)), H', ⟨by have := HK1.out; have := HK2.out; omega⟩, ⟨by (try simp only [hl39_2]); (with_reducible repeat (first | apply Kd.R_alloc | apply Kd.R_drewN | apply Kd.R_drew)); exact Kd.R_mono HO128.out (fun _ hk => hk.1)⟩, ⟨by (try simp only [hl39_2]); (with_reducible repeat (first | apply Kd.R_alloc | apply Kd.R_drewN | apply Kd.R_drew)); exact Kd.R_mono HO_39.out (fun _ hk => hk.2)⟩, ⟨by repeat (first | (with_reducible first | exact HB.out | apply below_alloc | apply pw_below_drewN | apply below_drew1 | refine below_set ?_ GE125.out) | exact HB.out)⟩⟩
        ·rw [if_neg c29] at H
         exact absurd H (by simp)
       ·rw [if_neg c28] at H
        exact absurd H (by simp)
      ·rw [if_neg c27] at H
       have c27b0 : decide (x41_2 < (x3_1.length : Int)) = false := decide_eq_false c27
       (try simp only [hl39_2] at c27b0)
       clear c27
       obtain rfl := Option.some.inj H
       go_wp2
       go_ret
       exact ⟨_, by first | rfl | (simp [errW_none, errW_some] <;> rfl) | (simp [*, errW_none, errW_some] <;> rfl), by (with_reducible repeat (first | apply Kd.R_alloc | apply Kd.R_drewN | apply Kd.R_drew)); exact Kd.R_mono HO_10.out (fun _ hk => trivial), by repeat (first | (with_reducible first | exact HB.out | apply below_alloc | apply pw_below_drewN | apply below_drew1) | exact HB.out)⟩

end Go.Proofs.YtlmdcpooogaolaaDoor.G

-- PRINTED by print.py (a twelfth state) out of the translation. Not trusted: Lean checks it.
namespace Go.Proofs.YtlmdcpooogaolaaDoor.G
open Go.RowKit Go.Proofs.YtlmdcpooogaolaaDoorW.PrintWords Go.Proofs.YtlmdcpooogaolaaDoorW.PrintLast Go.Proofs.YtlmdcpooogaolaaDoorW.PrintMore
attribute [local go_sem] max2_int min2_int max_two min_two max_three min_three max_four min_four   -- for this text's walks alone
set_option linter.unusedVariables false
set_option linter.unusedSimpArgs false

/-! ### span_Norm: function 11 -/
def span_Norm.f (k : Nat) (l0 : List (S32)) : Option ((List (S32))) := (span_Union.f k (([l0] : List (List (S32))))).bind fun t132 => (some t132)
theorem span_Norm.mono : ∀ a0 k, LeO (span_Norm.f k a0) (span_Norm.f (k + 1) a0) := by
 intro a0 k
 unfold span_Norm.f
 repeat' first
   | (with_reducible exact span_Union.mono _ _)
   | (with_reducible exact LeO.refl _)
   | (with_reducible exact LeO.none _)
   | (with_reducible refine LeO.ite ?_ ?_)
   | (with_reducible refine LeO.bind ?_ (fun _ => ?_))
   | exact span_Union.mono _ _
   | exact LeO.none _
   | refine LeO.ite ?_ ?_
   | refine LeO.bind ?_ (fun _ => ?_)
set_option maxHeartbeats 8000000 in
set_option maxRecDepth 100000 in
theorem span_Norm.calls (k : Nat) (P0_ : Nat → Prop) (A0 : Option Addr) (c0 : Nat) (l0 : List (S32)) (r : List (S32)) (w : World) (hs0 : Kd.V k32 32 w w.heap.size (fun k_ => P0_ k_) (.slice A0 l0.length c0) l0) (h : span_Norm.f k l0 = some r) :
  Calls Tryd.prog 11 #[.slice A0 l0.length c0] w fun e w' => ∃ v0_ : Value, e = .returned (v0_) ∧ Kd.R k32 32 w' w.heap.size (fun k_ => (w.heap.size ≤ k_)) v0_ r ∧ Below w.heap.size w w' := by
 have HO0 := Aside0.mk (show Kd.V k32 32 w w.heap.size (fun k_ => (P0_ k_ ∨ w.heap.size ≤ k_)) (.slice A0 l0.length c0) l0 from Kd.V_mono hs0 (fun k_ hk => .inl hk))
 have HB := Aside0.mk (Below.refl w.heap.size w)
 have H : ((span_Union.f k (([l0] : List (List (S32))))).bind fun t132 => (some t132)) = some r := h
 clear h
 obtain ⟨y129, hy129⟩ : ∃ y_ : List (List (S32)), y_ = (([l0] : List (List (S32)))) := ⟨_, rfl⟩
 replace H : ((span_Union.f k y129).bind fun t132 => (some t132)) = some r := by first | (rw [hy129]; with_reducible exact H) | (have H2_ := (Option.bind_some _ _).symm.trans H; rw [hy129]; with_reducible exact H2_) | (have H2_ := (Option.bind_some _ _).symm.trans H; with_reducible exact H2_) | with_reducible exact H | (rw [hy129]; exact H) | exact H
 have Ny129 := Aside0.mk hy129
 clear hy129
 replace H := Option.bind_eq_some_iff.mp H
 obtain ⟨t132, A20, H⟩ := H
 replace H : (some t132) = some r := H
 have A2 := Aside0.mk A20
 clear A20
 obtain rfl := Option.some.inj H
 go_enter Tryd.func11, Tryd.ntmps11
 go_wp2_with (first | ((with_reducible refine gate_dst (N := 4) rfl ?_); refine Kd.N_lit (Kd.slice 32 k32) _ 22 ?hg (N' := 4) ?hd (xs := ([l0] : List (List (S32)))) (inner := [.slice A0 l0.length c0]) (ok := (fun k_ => (P0_ k_ ∨ w.heap.size ≤ k_))) (okp := (fun k_ => (P0_ k_ ∨ w.heap.size ≤ k_))) ?hr ?hp (fun _ hk => hk) ((show ∀ k_, w.heap.size ≤ k_ → (fun k_ => (P0_ k_ ∨ w.heap.size ≤ k_)) k_ from fun k_ hk => (.inr (Nat.le_trans (below_size (by repeat (first | (with_reducible first | exact HB.out | apply below_alloc | apply pw_below_drewN | apply below_drew1) | exact HB.out))) hk))) _ (Nat.le_refl _)) (Below.refl _ _) (Nat.le_refl _) (by simp) ?_; (case hd => rfl); (case hg => rfl); (case hr => first | (go_simp; done) | (go_simp; rfl)); (case hp => exact (Reps.one (show Kd.FK (Kd.slice 32 k32) _ _ l0 [.slice A0 l0.length c0] from (Kd.FK_slice_mk (Kd.V_reads' (Kd.V_mono (ok' := (fun k_ => (P0_ k_ ∨ w.heap.size ≤ k_))) (HO0.out) (fun k_ hk => hk))).2.1 (Kd.V_F (Kd.V_mono (ok' := (fun k_ => (P0_ k_ ∨ w.heap.size ≤ k_))) (HO0.out) (fun k_ hk => hk))))) (Reps.none _ _))); intro v130 w3 ho4 hb hg_ hnew_; clear hg_ hnew_; (first | rw [← Ny129.out] at ho4 | (simp only [Int.reduceToNat] at ho4; rw [← Ny129.out] at ho4)); have n0_ := Aside0.mk (Kd.V_elder' (by (with_reducible repeat (first | apply Kd.V_alloc | apply Kd.V_drewN | apply Kd.V_drew)); exact HO0.out) (Kd.N_base ho4) hb); have n1_ := Aside0.mk (Kd.N_lower ho4 (below_size (by repeat (first | (with_reducible first | exact HB.out | apply below_alloc | apply pw_below_drewN | apply below_drew1) | exact HB.out)))); have n2_ := Aside0.mk (below_step (by repeat (first | (with_reducible first | exact HB.out | apply below_alloc | apply pw_below_drewN | apply below_drew1) | exact HB.out)) hb); clear HO0; clear HB; have HO0 := n0_; have HO131 := n1_; have HB := n2_; clear n0_ n1_ n2_; clear hb ho4; obtain ⟨Ao5, co5, eo5⟩ := Kd.N_slice HO131.out; subst eo5) | ((with_reducible refine gate_callee (f := 21) rfl ?_); refine goesL_ (some 5) rfl rfl Tryd.func21 (by kernel_rfl) rfl #[.slice Ao5 y129.length co5] rfl (by (try simp only [List.map_toArray, List.map_cons, List.map_nil]); first | done | rfl | (simp only [List.length_drop, List.length_take]; rfl)) ?_; (with_reducible refine (span_Union.calls k _ _ y129 t132 _ ?side1 ?side2 A2.out).mono ?_); (case side1 => repeat (first | exact (Kd.N_reads' HO131.out).2.2 | (with_reducible refine Kd.C_alloc ?_ _) | (with_reducible refine Kd.C_drewN ?_ _) | (with_reducible refine Kd.C_drew ?_))); (case side2 => exact (Kd.N_reads' HO131.out).2.1); rintro e w6 ⟨v133, rfl, ho0, hb⟩; refine ⟨_, rfl, ?_⟩; have n0_ := Aside0.mk (Kd.V_elder' (by (with_reducible repeat (first | apply Kd.V_alloc | apply Kd.V_drewN | apply Kd.V_drew)); exact HO0.out) (Kd.R_base ho0) hb); have n1_ := Aside0.mk (Kd.N_elder' (by (with_reducible repeat (first | apply Kd.N_alloc | apply Kd.N_drewN | apply Kd.N_drew)); exact HO131.out) (Kd.R_base ho0) hb); have n2_ := Aside0.mk (Kd.R_lower (Kd.R_newM (M := fun k_ => (w.heap.size ≤ k_)) ho0 (below_size (by repeat (first | (with_reducible first | exact HB.out | apply below_alloc | apply pw_below_drewN | apply below_drew1) | exact HB.out))) (fun k_ h_ => h_)) (below_size (by repeat (first | (with_reducible first | exact HB.out | apply below_alloc | apply pw_below_drewN | apply below_drew1) | exact HB.out)))); have n3_ := Aside0.mk (below_step (by repeat (first | (with_reducible first | exact HB.out | apply below_alloc | apply pw_below_drewN | apply below_drew1) | exact HB.out)) hb); clear HO0; clear HO131; clear HB; have HO0 := n0_; have HO131 := n1_; have HO134 := n2_; have HB := n3_; clear n0_ n1_ n2_ n3_; (try clear hb); (try clear hb2); (try clear hk); (try clear hi); (try clear ho0)))
 go_ret
 exact ⟨_, by first | rfl | (simp [errW_none, errW_some] <;> rfl) | (simp [*, errW_none, errW_some] <;> rfl), by (with_reducible repeat (first | apply Kd.R_alloc | apply Kd.R_drewN | apply Kd.R_drew)); exact Kd.R_mono HO134.out (fun _ hk => hk.1), by repeat (first | (with_reducible first | exact HB.out | apply below_alloc | apply pw_below_drewN | apply below_drew1) | exact HB.out)⟩

end Go.Proofs.YtlmdcpooogaolaaDoor.G

/- What the printed Union answers: the set's own form. -/
namespace Go.Proofs.YtlmdcpooogaolaaDoor.Pure
open Go.RowKit Go.Proofs.YtlmdcpooogaolaaDoor.G Go.Proofs.YtlmdcpooogaolaaDoorW.PrintWords Go.Proofs.YtlmdcpooogaolaaDoorW.PrintLast Go.Proofs.YtlmdcpooogaolaaDoorW.PrintMore
set_option linter.unusedVariables false

theorem clip_eq (r : S32) : span_clip.f r.f0 r.f1 = some ((clipS r).f0, (clipS r).f1, okB r) := by
  unfold span_clip.f okB clipS mx mn
  rfl
/-- The printed 'add', on a list in form. -/
theorem add_eq (o : List S32) (r : S32) (h : ∀ x ∈ o, 0 ≤ x.f1 ∧ x.f1 ≤ 1000000000) (hl : o.length < 8796093022208) : span_add.f o r.f0 r.f1 = some (addS o r) := by
  unfold span_add.f
  rcases List.eq_nil_or_concat o with rfl | ⟨t, x, rfl⟩
  · rw [if_neg (by simp), if_pos (by simp)]
    rfl
  · rw [List.concat_eq_append] at *
    have hx := h x (by simp)
    have e : wrap64 (((t ++ [x]).length : Int) - 1) = (t.length : Int) := by
      rw [w64 (by rw [List.length_append, List.length_singleton]; omega) (by rw [List.length_append, List.length_singleton] at hl ⊢; omega)]; simp
    rw [e]
    have er : rd_T32 (t ++ [x]) (t.length : Int) = x := rdT t [] x
    rw [er, if_pos (by rw [List.length_append, List.length_singleton]; omega), if_pos (by omega), if_pos (by rw [List.length_append, List.length_singleton]; omega), addS_snoc, w64 (by omega) (by omega)]
    split
    · rw [Int.toNat_natCast]
      rw [List.set_append_right _ _ (Nat.le_refl _), Nat.sub_self]
      rfl
    · rfl

/-- The inner loop: the clipped runs behind what was there. -/
theorem union_l1 (L : List (List S32)) (n i : Int) (row : List S32) (R : List S32) (pre suf : List S32) (hrow : row = pre ++ suf) (hr : row.length ≤ 8796093022208) : ∀ (acc : List S32), acc.length + (clips suf).length ≤ 8796093022208 →
    Ev (fun k => span_Union.l0 k (acc ++ clips suf) L n (wrap64 (i + 1))) R → Ev (fun k => span_Union.l1 k acc L n i row (row.length : Int) (pre.length : Int)) R := by
  induction suf generalizing pre with
  | nil =>
    intro acc _ hE
    refine Ev.step (f := fun k => span_Union.l0 k (acc ++ clips []) L n (wrap64 (i + 1))) (fun k => ?_) hE
    simp only [span_Union.l1]
    rw [if_neg (by rw [hrow]; simp)]
    simp [clips]
  | cons r t ih =>
    intro acc hl hE
    have e1 : wrap64 ((pre.length : Int) + 1) = ((pre ++ [r]).length : Int) := by rw [w64_nat _ (by rw [hrow] at hr; simp at hr; omega)]; simp
    have hrow' : row = (pre ++ [r]) ++ t := by rw [hrow]; simp
    have hcl : clips (r :: t) = (if okB r = true then [clipS r] else []) ++ clips t := by
      unfold clips
      rw [List.filter_cons]
      split <;> simp
    have hlt : (pre.length : Int) < (row.length : Int) := by rw [hrow]; simp; omega
    have hget : rd_T32 row (pre.length : Int) = r := by rw [hrow]; exact rdT pre t r
    rw [hcl] at hl hE
    by_cases hok : okB r = true
    · rw [if_pos hok] at hl hE
      refine Ev.step (f := fun k => span_Union.l1 k (acc ++ [clipS r]) L n i row (row.length : Int) ((pre ++ [r]).length : Int)) (fun k => ?_) (ih (pre ++ [r]) hrow' (acc ++ [clipS r]) (by simp at hl ⊢; omega) (by rw [List.append_assoc]; exact hE))
      simp only [span_Union.l1]
      rw [if_pos hlt, if_pos (by omega), if_pos hlt, hget, clip_eq]
      simp only [Option.bind_some]
      rw [if_pos hok, if_pos (by simp at hl; omega), e1]
    · rw [if_neg hok] at hl hE
      refine Ev.step (f := fun k => span_Union.l1 k acc L n i row (row.length : Int) ((pre ++ [r]).length : Int)) (fun k => ?_) (ih (pre ++ [r]) hrow' acc (by simpa using hl) (by simpa using hE))
      simp only [span_Union.l1]
      rw [if_pos hlt, if_pos (by omega), if_pos hlt, hget, clip_eq]
      simp only [Option.bind_some]
      rw [if_neg hok, e1]

/-- The outer loop. -/
theorem union_l0 (L : List (List S32)) (R : List S32) (hL : L.length < 4611686018427387904) (hr : ∀ l ∈ L, l.length ≤ 8796093022208) (pre suf : List (List S32)) (hp : L = pre ++ suf) : ∀ (acc : List S32), acc.length + (clips suf.flatten).length ≤ 8796093022208 →
    Ev (fun k => (api_Run.f (acc ++ clips suf.flatten)).bind fun t => span_Union.l2 k [] t ((acc ++ clips suf.flatten).length : Int) 0) R → Ev (fun k => span_Union.l0 k acc L (L.length : Int) (pre.length : Int)) R := by
  induction suf generalizing pre with
  | nil =>
    intro acc _ hE
    refine Ev.step (f := fun k => (api_Run.f acc).bind fun t => span_Union.l2 k [] t (acc.length : Int) 0) (fun k => ?_) (by simpa [clips] using hE)
    simp only [span_Union.l0]
    rw [if_neg (by rw [hp]; simp)]
  | cons r t ih =>
    intro acc hl hE
    have e1 : wrap64 ((pre.length : Int) + 1) = ((pre ++ [r]).length : Int) := by rw [w64_nat _ (by rw [hp] at hL; simp at hL; omega)]; simp
    have hcl : clips (r :: t).flatten = clips r ++ clips t.flatten := by simp [clips]
    rw [hcl] at hl hE
    have hlt : (pre.length : Int) < (L.length : Int) := by rw [hp]; simp; omega
    have hget : rd_L2 L (pre.length : Int) = r := by rw [hp]; exact rdL pre t r
    have ih' := ih (pre ++ [r]) (by rw [hp]; simp) (acc ++ clips r) (by simp at hl ⊢; omega) (by rw [List.append_assoc]; exact hE)
    refine Ev.step (f := fun k => span_Union.l1 k acc L (L.length : Int) (pre.length : Int) r (r.length : Int) 0) (fun k => ?_) (union_l1 L (L.length : Int) (pre.length : Int) r R [] r rfl (hr r (by rw [hp]; simp)) acc (by simp at hl; omega) (by rw [e1]; exact ih'))
    simp only [span_Union.l0]
    rw [if_pos hlt, if_pos (by omega), if_pos hlt, hget]

theorem addS_len (o : List S32) (r : S32) : (addS o r).length ≤ o.length + 1 := by
  unfold addS
  split
  · simp
  · split <;> simp <;> omega
theorem addS_bd (o : List S32) (r : S32) (h : ∀ x ∈ o, 0 ≤ x.f1 ∧ x.f1 ≤ 1000000000) (hr : 0 ≤ r.f1 ∧ r.f1 ≤ 1000000000) : ∀ x ∈ addS o r, 0 ≤ x.f1 ∧ x.f1 ≤ 1000000000 := by
  rcases List.eq_nil_or_concat o with rfl | ⟨t, y, rfl⟩
  · intro x hx; simp [addS] at hx; subst hx; exact hr
  · rw [List.concat_eq_append] at *
    rw [addS_snoc]
    intro x hx
    split at hx
    · rw [List.mem_append, List.mem_singleton] at hx
      rcases hx with hx | rfl
      · exact h x (by simp [hx])
      · have := h y (by simp)
        simp only
        split
        · exact hr
        · exact this
    · rw [List.mem_append, List.mem_singleton] at hx
      rcases hx with hx | rfl
      · exact h x hx
      · exact hr
/-- The last loop: one by one. -/
theorem union_l2 (row : List S32) (hr : row.length ≤ 8796093022208) (hb : ∀ x ∈ row, 0 ≤ x.f1 ∧ x.f1 ≤ 1000000000) (pre suf : List S32) (hp : row = pre ++ suf) : ∀ (o : List S32), o.length ≤ pre.length → (∀ x ∈ o, 0 ≤ x.f1 ∧ x.f1 ≤ 1000000000) →
    Ev (fun k => span_Union.l2 k o row (row.length : Int) (pre.length : Int)) (suf.foldl addS o) := by
  induction suf generalizing pre with
  | nil =>
    intro o _ _
    refine Ev.step (f := fun _ => some o) (fun k => ?_) (Ev.now _)
    simp only [span_Union.l2]
    rw [if_neg (by rw [hp]; simp)]
  | cons r t ih =>
    intro o hl ho
    have e1 : wrap64 ((pre.length : Int) + 1) = ((pre ++ [r]).length : Int) := by rw [w64_nat _ (by rw [hp] at hr; simp at hr; omega)]; simp
    have hlt : (pre.length : Int) < (row.length : Int) := by rw [hp]; simp; omega
    have hget : rd_T32 row (pre.length : Int) = r := by rw [hp]; exact rdT pre t r
    have hbr := hb r (by rw [hp]; simp)
    have h2 := addS_len o r
    refine Ev.step (f := fun k => span_Union.l2 k (addS o r) row (row.length : Int) ((pre ++ [r]).length : Int)) (fun k => ?_) (ih (pre ++ [r]) (by rw [hp]; simp) (addS o r) (by simp; omega) (addS_bd o r ho hbr))
    simp only [span_Union.l2]
    rw [if_pos hlt, if_pos (by omega), if_pos hlt, hget, add_eq o r ho (by rw [hp] at hr; simp at hr; omega)]
    simp only [Option.bind_some]
    rw [e1]

theorem sort_perm (l : List S32) (h : okLo l) : ((sortR (toR l h)).toList.map (·.1)).Perm l ∧ ((sortR (toR l h)).toList.map (·.1)).Pairwise (fun a b => a.f0 ≤ b.f0) := by
  obtain ⟨⟨h1, _, h3⟩, h4⟩ := sortR_facts (toR l h)
  obtain ⟨D, hD⟩ : ∃ D, sortR (toR l h) = D := ⟨_, rfl⟩
  rw [hD] at h1 h3 h4 ⊢
  refine ⟨?_, ?_⟩
  · have h5 : D.extract 0 (toR l h).size = D := by rw [← h1]; simp
    have h6 : (toR l h).extract 0 (toR l h).size = toR l h := by simp
    rw [h5, h6] at h3
    have := h3.map (fun x : SRun => x.1)
    rwa [toR_val] at this
  · rw [List.pairwise_map, List.pairwise_iff_getElem]
    intro i j hi hj hij
    have hi' : i < D.size := by simpa using hi
    have hj' : j < D.size := by simpa using hj
    have := h4 i j (Nat.zero_le _) hij (by omega)
    have e := ltR_eq D[j]! D[i]!
    unfold ltR at e
    rw [e, decide_eq_false_iff_not, getElem!_pos D j hj', getElem!_pos D i hi'] at this
    simp only [Array.getElem_toList]
    omega
theorem clips_len (l : List S32) : (clips l).length ≤ l.length := by
  unfold clips
  rw [List.length_map]
  exact List.length_filter_le _ _
theorem union_ev (L : List (List S32)) (hL : L.length < 4611686018427387904) (hr : ∀ l ∈ L, l.length ≤ 8796093022208) (hc : (clips L.flatten).length ≤ 8796093022208) : Ev (fun k => span_Union.f k L) (canon L.flatten) := by
  unfold span_Union.f
  have hok : okLo (clips L.flatten) := fun x hx => by have := clips_good _ x hx; unfold Good at this; omega
  refine union_l0 L _ hL hr [] L rfl [] (by simpa using hc) ?_
  rw [List.nil_append]
  obtain ⟨C, hC⟩ : ∃ C, clips L.flatten = C := ⟨_, rfl⟩
  by_cases hz : C.length = 0
  · have : C = [] := List.eq_nil_of_length_eq_zero hz
    subst this
    have e : canon L.flatten = [] := by rw [← foldS_canon L.flatten [] (by rw [hC]) (by simp)]; rfl
    rw [hC, e]
    refine Ev.step (f := fun _ => some []) (fun k => ?_) (Ev.now _)
    rfl
  · rw [hC] at hc hok
    obtain ⟨h1, h2⟩ := sort_perm C hok
    have e : api_Run.f C = some ((sortR (toR C hok)).toList.map (·.1)) := by
      unfold api_Run.f
      rw [if_neg hz, dif_pos hok, if_pos (by omega)]
    have e2 := foldS_canon L.flatten _ (by rw [hC]; exact h1) h2
    rw [hC, e, ← e2]
    have hlen := h1.length_eq
    generalize hD : (sortR (toR C hok)).toList.map (·.1) = D at *
    have := union_l2 D (by omega) (fun x hx => by have := clips_good L.flatten x (by rw [hC]; exact h1.mem_iff.1 hx); unfold Good at this; omega) [] D rfl [] (by simp) (by simp)
    rw [← hlen]
    exact this
end Go.Proofs.YtlmdcpooogaolaaDoor.Pure

/- What printed span functions answer: Norm, Size, Has. -/
namespace Go.Proofs.YtlmdcpooogaolaaDoor.Pure
open Go.RowKit Go.Proofs.YtlmdcpooogaolaaDoor.G Go.Proofs.YtlmdcpooogaolaaDoorW.PrintWords Go.Proofs.YtlmdcpooogaolaaDoorW.PrintLast Go.Proofs.YtlmdcpooogaolaaDoorW.PrintMore
set_option linter.unusedVariables false

theorem norm_ev (l : List S32) (h : Fit l) : Ev (fun k => span_Norm.f k l) (canon l) := by
  unfold span_Norm.f
  refine Ev.bind (a := canon l) ?_ (Ev.now _)
  have := union_ev [l] (by simp) (by simp; exact h) (by simp; exact Nat.le_trans (clips_len l) h)
  simpa using this

end Go.Proofs.YtlmdcpooogaolaaDoor.Pure
