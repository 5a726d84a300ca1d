/- slices.SortFunc of a row of runs that begin from 1 to 1000000000, by where they begin: the row holds what Go's own sort makes of it; nothing else is turned. -/
import Derived.Test.YtmlfbgkaondljaaGx0
import Derived.Test.YtmlfbgkaondljaaShelf
import Derived.Shelf.SlSortCmp.WholeK
import Derived.Shelf.SlSortCmp.NoneTotal
namespace Go.Proofs.Ytmlfbgkaondljaa.G
open Go.RowKit Go.Proofs.YtmlfbgkaondljaaW.PrintWords Go.Proofs.YtmlfbgkaondljaaW.PrintLast Go.Proofs.YtmlfbgkaondljaaW.PrintMore
def runCells (l : List S28) : List Value := l.flatMap fun x => [.int .i64 x.f0, .int .i64 x.f1]
theorem runCells_length (l : List S28) : (runCells l).length = l.length * 2 := by
  induction l with
  | nil => rfl
  | cons x t ih => simp only [runCells, List.flatMap_cons, List.length_append, List.length_cons, List.length_nil] at *; omega
theorem runCells_get (l : List S28) : ∀ (j : Nat), (runCells l)[j]? = if j < l.length * 2 then some (if j % 2 = 0 then .int .i64 (rd_T28 l ((j / 2 : Nat) : Int)).f0 else .int .i64 (rd_T28 l ((j / 2 : Nat) : Int)).f1) else none := by
  induction l with
  | nil => intro j; simp [runCells]
  | cons x t ih =>
    intro j
    have e : runCells (x :: t) = .int .i64 x.f0 :: .int .i64 x.f1 :: runCells t := rfl
    rw [e]
    match j with
    | 0 => simp [rd_T28]
    | 1 => simp [rd_T28]; omega
    | j + 2 =>
      simp only [List.getElem?_cons_succ, ih, List.length_cons]
      have h1 : (j + 2) % 2 = j % 2 := by omega
      have h2 : (((j + 2) / 2 : Nat) : Int) = ((j / 2 : Nat) : Int) + 1 := by omega
      have h3 : rd_T28 (x :: t) (((j / 2 : Nat) : Int) + 1) = rd_T28 t ((j / 2 : Nat) : Int) := by
        unfold rd_T28
        rw [show (((j / 2 : Nat) : Int) + 1).toNat = (((j / 2 : Nat) : Int)).toNat + 1 from by omega]
        rfl
      rw [h1, h2, h3]
      by_cases h : j < t.length * 2
      · rw [if_pos h, if_pos (show j + 2 < (t.length + 1) * 2 by omega)]
      · rw [if_neg h, if_neg (show ¬ j + 2 < (t.length + 1) * 2 by omega)]
theorem run_reps (base : Nat) (ok : Nat → Prop) (W : World) (l : List S28) : Reps (k28.M W base ok) 2 l (runCells l) := by
  induction l with
  | nil => exact Reps.none _ _
  | cons x t ih => exact Reps.front (k28_mkM W base ok x) rfl ih rfl
theorem run_cells_of (w : World) (ad : Addr) (l : List S28) (h : k28.C w (some ad) l.length l) : ∀ j u, (runCells l)[j]? = some u → w.cell? (ad.add j) = some u := by
  intro j u hu
  rw [runCells_get] at hu
  by_cases hj : j < l.length * 2
  · rw [if_pos hj] at hu
    obtain ⟨ad', e, h0, h1⟩ := at_T28 h ((j / 2 : Nat) : Int) (by omega) (by omega)
    cases e
    by_cases hm : j % 2 = 0
    · rw [if_pos hm] at hu
      cases hu
      rw [show (((j / 2 : Nat) : Int)).toNat * 2 = j from by omega] at h0
      exact h0
    · rw [if_neg hm] at hu
      cases hu
      have := add_field ad ((((j / 2 : Nat) : Int)).toNat * 2) 1 (by omega)
      rw [← this, show (((j / 2 : Nat) : Int)).toNat * 2 + 1 = j from by omega] at h1
      exact h1
  · rw [if_neg hj] at hu; cases hu
theorem run_R (w : World) (base n : Nat) (v : Value) (l : List S28) (h : w.ownsRow base 28 2 v n (runCells l)) (hn : n = l.length) : k28.R 28 w base (fun _ => True) v l := by
  subst hn
  exact ⟨fun _ _ => trivial, runCells l, h, run_reps _ _ _ _⟩

open Go.Sort

abbrev SRun := { x : S28 // 1 ≤ x.f0 ∧ x.f0 ≤ 1000000000 }
instance : Inhabited SRun := ⟨⟨⟨1, 1⟩, by decide, by decide⟩⟩
def encR28 (x : SRun) : List Value := [.int .i64 x.1.f0, .int .i64 x.1.f1]
def cmpR (x y : SRun) : Int := x.1.f0 - y.1.f0
def ltR : SRun → SRun → Bool := ltOf cmpR
theorem ltR_eq (x y : SRun) : ltR x y = decide (x.1.f0 < y.1.f0) := by
  unfold ltR ltOf cmpR
  by_cases h : x.1.f0 < y.1.f0
  · rw [decide_eq_true h, decide_eq_true (by omega)]
  · rw [decide_eq_false h, decide_eq_false (by omega)]
theorem swoR : SWO (ltOf cmpR) where
  irrefl x := by have := ltR_eq x x; unfold ltR at this; rw [this]; simp
  trans x y z h1 h2 := by
    have a := ltR_eq x y; have b := ltR_eq y z; have c := ltR_eq x z
    unfold ltR at a b c
    rw [a] at h1; rw [b] at h2; rw [c]; simp at *; omega
  ntrans x y z h1 h2 := by
    have a := ltR_eq x y; have b := ltR_eq y z; have c := ltR_eq x z
    unfold ltR at a b c
    rw [a] at h1; rw [b] at h2; rw [c]; simp at *; omega

set_option maxHeartbeats 1000000 in
/-- The comparison: 'x.Lo - y.Lo'. -/
theorem closure59 (x y : SRun) (W : World) : Calls Try.prog 15 #[.agg #[.int .i64 x.1.f0, .int .i64 x.1.f1], .agg #[.int .i64 y.1.f0, .int .i64 y.1.f1]] W fun e w' => e = .returned (.int .i64 (cmpR x y)) ∧ ∃ q os', w' = grow (W.drewN q) os' := by
  unfold cmpR
  obtain ⟨⟨a, b⟩, h1, h2⟩ := x
  obtain ⟨⟨c, d⟩, h3, h4⟩ := y
  simp only at h1 h2 h3 h4 ⊢
  go_enter Try.func15, Try.ntmps15
  go_wp2
  go_ret
  exact ⟨rfl, 0, _, by rw [alloc_eq_grow, alloc_eq_grow, grow_grow]; rfl⟩

def okLo (l : List S28) : Prop := ∀ x ∈ l, 1 ≤ x.f0 ∧ x.f0 ≤ 1000000000
instance (l : List S28) : Decidable (okLo l) := by unfold okLo; infer_instance
def toR (l : List S28) (h : okLo l) : Array SRun := (l.attach.map fun x => (⟨x.1, h x.1 x.2⟩ : SRun)).toArray
theorem toR_val (l : List S28) (h : okLo l) : (toR l h).toList.map (·.1) = l := by
  unfold toR
  simp
theorem toR_size (l : List S28) (h : okLo l) : (toR l h).size = l.length := by simp [toR]
def sortR (d : Array SRun) : Array SRun := pdq (ltOf cmpR) d 0 d.size (Lib.bitLen d.size) true true
theorem sortR_facts (d : Array SRun) : PermIn 0 d.size d (sortR d) ∧ SortedIn (ltOf cmpR) 0 d.size (sortR d) :=
  pdq_sorts (ltOf cmpR) swoR d 0 d.size (Lib.bitLen d.size) true true (Nat.zero_le _) (Nat.le_refl _) (Or.inl rfl)
def api_Run.f (l0 : List S28) : Option (List S28) :=
  if l0.length = 0 then some [] else if h : okLo l0 then (if l0.length < 4611686018427387904 then some ((sortR (toR l0 h)).toList.map (·.1)) else none) else none

theorem rd_val (d : Array SRun) (i : Nat) (h : i < d.size) : rd_T28 (d.toList.map (·.1)) (i : Int) = d[i]!.1 := by
  unfold rd_T28
  rw [Int.toNat_natCast, List.getD_eq_getElem?_getD, List.getElem?_map, Array.getElem?_toList, Array.getElem?_eq_getElem h, getElem!_pos d i h]
  rfl
/-- The flat row is the list's cells. -/
theorem flat_cells (d : Array SRun) (j : Nat) (h : j < d.size * 2) : (runCells (d.toList.map (·.1)))[j]? = some (flatK encR28 2 d)[j]! := by
  rw [get_flatK _ _ _ _ h, runCells_get, if_pos (by simpa using h), rd_val d (j / 2) (by omega)]
  unfold encR28
  rcases Nat.mod_two_eq_zero_or_one j with e | e <;> simp [e]
theorem flat_list (d : Array SRun) : (flatK encR28 2 d).toList = runCells (d.toList.map (·.1)) := by
  apply List.ext_getElem?
  intro j
  by_cases h : j < d.size * 2
  · rw [flat_cells d j h, Array.getElem?_toList, Array.getElem?_eq_getElem (by rw [size_flatK]; exact h), getElem!_pos _ j (by rw [size_flatK]; exact h)]
  · rw [Array.getElem?_toList, Array.getElem?_eq_none (by rw [size_flatK]; omega), runCells_get, if_neg (by simpa using h)]

theorem heap_sortK {w : World} {g n : Nat} {os : Array Obj} {cur : Array Value} {e : TypeId} {fr : Nat × Nat} (d : Array SRun) (hb : w.heap[g]? = some (.cells cur e fr)) :
    (sortWorldK encR28 2 w g 0 n d os).heap[g]? = some (.cells (putCells id 0 (flatK encR28 2 d) cur) e fr) := by
  have hg : g < w.heap.size := (Array.getElem?_eq_some_iff.1 hb).1
  unfold sortWorldK putRowK
  rw [heap_grow_old _ _ (by simpa [Sort.ahead] using hg)]
  simp [putRow, mapBlock, Sort.ahead, Array.getElem?_modify, hb, onCells]
theorem grownBy_sortK {w : World} {g n : Nat} {os : Array Obj} (d : Array SRun) : w.grownBy (sortWorldK encR28 2 w g 0 n d os) (some g) := by
  unfold sortWorldK putRowK
  refine ⟨rfl, rfl, rfl, by simp [Sort.ahead], fun k hk hne => ?_⟩
  rw [heap_grow_old _ _ (by simpa [Sort.ahead] using hk)]
  have : g ≠ k := fun e => hne (by rw [e])
  simp [putRow, mapBlock, Sort.ahead, Array.getElem?_modify, this]
theorem take_putK (cur : Array Value) (d : Array SRun) (h : d.size * 2 ≤ cur.size) : (putCells id 0 (flatK encR28 2 d) cur).toList.take (d.size * 2) = runCells (d.toList.map (·.1)) := by
  rw [← flat_list]
  apply List.ext_getElem?
  intro j
  by_cases hj : j < d.size * 2
  · have h2 : j < cur.size := by omega
    have h3 : j < (flatK encR28 2 d).size := by rw [size_flatK]; exact hj
    rw [List.getElem?_take_of_lt hj, Array.getElem?_toList, Array.getElem?_toList, Array.getElem?_eq_getElem h3]
    have : j < d.size * 2 := hj
    simp [putCells, h2, this]
  · rw [List.getElem?_take_eq_none (by omega), Array.getElem?_toList, Array.getElem?_eq_none (by rw [size_flatK]; omega)]

theorem cmpLays59 (blk off size : Nat) (w : World) : CmpLays Try.prog 15 #[] encR28 2 cmpR blk off size w :=
  fun _ _ _ _ x y => closure59 x y _

theorem api_Run.calls (P0_ : Nat → Prop) (u9000_ : Value) (l0 : List S28) (r : List S28) (w0 w : World) (hB : Below w0.heap.size w0 w) (ho0 : Kd.R k28 28 w w0.heap.size P0_ u9000_ l0) (h : api_Run.f l0 = some r) :
    Calls Try.prog 14 #[u9000_, .func (.func 15) #[] #[]] w fun e w' => e = .returned (.tuple #[]) ∧ Kd.R k28 28 w' w0.heap.size (fun k_ => (P0_ k_ ∨ w.heap.size ≤ k_)) u9000_ r ∧ Below w0.heap.size w0 w' ∧ Kept w w' (fun k_ => P0_ k_) := by
  unfold api_Run.f at h
  by_cases hz : l0.length = 0
  · rw [if_pos hz] at h
    simp only [Option.some.injEq] at h
    subst h
    have hl : l0 = [] := List.eq_nil_of_length_eq_zero hz
    subst hl
    obtain ⟨A, c, rfl⟩ := Kd.R_slice ho0
    have hcon := AnyF.slices_SortFunc_none Try.sortRun A c (.func (.func 15) #[] #[]) w
    change Calls Try.prog 14 _ _ _ at hcon
    refine hcon.mono fun e w' hw => ?_
    obtain ⟨he, hw⟩ := hw
    subst hw
    exact ⟨he, Kd.R_mono ho0 (fun _ hk => .inl hk), hB, Kept.refl _ _⟩
  · rw [if_neg hz] at h
    by_cases hok : okLo l0
    · rw [dif_pos hok] at h
      by_cases hlt : l0.length < 4611686018427387904
      · rw [if_pos hlt] at h
        simp only [Option.some.injEq] at h
        have hread := Kd.R_reads ho0
        obtain ⟨h0, inner, ho, hr⟩ := ho0
        rcases ho.2 with ⟨_, h1⟩ | ⟨g, cap, cur, rfl, hbg, hhg, hnc, hcm, hcs, htk⟩
        · exact absurd h1 hz
        · obtain ⟨A, c, he, _, hC⟩ := hread
          injection he with he1 _ he3
          subst he1
          have hcells := run_cells_of w _ l0 hC
          have hsz := toR_size l0 hok
          have hHold : HoldsK encR28 2 w g 0 (toR l0 hok) := by
            intro j hj
            rw [size_flatK] at hj
            refine ⟨?_, by simp [World.frozen?, hhg]⟩
            have := hcells j _ (by rw [← toR_val l0 hok]; exact flat_cells (toR l0 hok) j hj)
            rw [add_plain] at this
            rw [Nat.zero_add]
            exact this
          have hg : g < w.heap.size := (Array.getElem?_eq_some_iff.1 hhg).1
          have hcon := AnyQ.slices_SortFunc_eq Try.sortRun 2 Try.isAgg28 Try.sizeOf28 encR28 (fun _ => rfl) (fun x v hv => by simp [encR28] at hv; rcases hv with rfl | rfl <;> rfl) cmpR swoR 15 #[] g 0 cap (toR l0 hok) w (enters_of Try.func15 (by kernel_rfl) rfl) (cmpLays59 g 0 _ w) hHold hg (by rw [hsz]; exact hlt)
          change Calls Try.prog 14 _ _ _ at hcon
          rw [hsz] at hcon
          refine hcon.mono fun e w' hw => ?_
          obtain ⟨he, n, os, hw⟩ := hw
          obtain ⟨hperm, _⟩ := sortR_facts (toR l0 hok)
          have hsz2 : (sortR (toR l0 hok)).size = l0.length := by rw [hperm.1, hsz]
          have hw2 : w' = sortWorldK encR28 2 w g 0 n (sortR (toR l0 hok)) os := by unfold sortR; rw [hsz]; exact hw
          clear hw
          subst hw2
          obtain ⟨D, hD⟩ : ∃ D, sortR (toR l0 hok) = D := ⟨_, rfl⟩
          rw [hD] at hsz2 h ⊢
          have hPg : P0_ g := h0 g (by simp [Value.ownBlock])
          have hgr := grownBy_sortK (w := w) (g := g) (n := n) (os := os) D
          have hrl : r.length = l0.length := by rw [← h, List.length_map, Array.length_toList, hsz2]
          have hlen : l0.length * 2 ≤ cur.size := by rw [hcs]; exact Nat.mul_le_mul_right _ hnc
          refine ⟨he, ⟨fun k hk => .inl (h0 k hk), runCells r, ⟨?_, .inr ⟨g, cap, putCells id 0 (flatK encR28 2 D) cur, ?_, hbg, heap_sortK D hhg, ?_, hcm, ?_, ?_⟩⟩, run_reps _ _ _ _⟩, hB.grown hgr (Nat.le_trans hB.size (Nat.le_refl _)) (fun k hk => by cases hk; exact hbg), ⟨hgr.size, fun i hi hn => hgr.block i hi (fun e => by cases e; exact hn hPg)⟩⟩
          · rw [runCells_length]; rfl
          · rw [hrl]
          · rw [hrl]; exact hnc
          · rw [← hcs]; simp [putCells]
          · have := take_putK cur D (by rw [hsz2]; exact hlen)
            rw [h, hsz2, ← hrl] at this
            exact this
      · rw [if_neg hlt] at h; cases h
    · rw [dif_neg hok] at h; cases h
end Go.Proofs.Ytmlfbgkaondljaa.G
