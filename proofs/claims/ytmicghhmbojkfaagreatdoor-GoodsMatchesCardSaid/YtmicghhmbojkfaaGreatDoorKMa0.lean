import Derived.Test.YtmicghhmbojkfaaGreatDoorGx0
import Derived.Test.YtmicghhmbojkfaaGreatDoorIta
import Derived.Test.YtmicghhmbojkfaaGreatDoorGx37
import Derived.Test.YtmicghhmbojkfaaGreatDoorGx33
import Derived.Test.YtmicghhmbojkfaaGreatDoorRfM
import Derived.Test.YtmicghhmbojkfaaGreatDoorRows
import Derived.Deep.Slices
import Derived.Deep.Fields
import Derived.ChangeSame
import Derived.SizedLaws
import Derived.WalkKit
import Derived.ProofKit
import Derived.OpenShut
/- Calls that this claim's statement never comes to: told by 'none', so that nothing is asked of them. -/
namespace Go.Proofs.YtmicghhmbojkfaaGreatDoor.G
open Go.RowKit Go.Proofs.YtmicghhmbojkfaaGreatDoorW.PrintWords Go.Proofs.YtmicghhmbojkfaaGreatDoorW.PrintLast Go.Proofs.YtmicghhmbojkfaaGreatDoorW.PrintMore
set_option linter.unusedVariables false
def barrowlaw02_name.f (k : Nat) (a0_0 : Int) (a0_1 : ByteArray) (a0_2 : ByteArray) (a0_3 : Int) (l0_4 : List Int) : Option (Bool) := none
theorem barrowlaw02_name.mono : ∀ a0_0 a0_1 a0_2 a0_3 l0_4 k, LeO (barrowlaw02_name.f k a0_0 a0_1 a0_2 a0_3 l0_4) (barrowlaw02_name.f (k + 1) a0_0 a0_1 a0_2 a0_3 l0_4) := fun _ _ _ _ _ _ => LeO.refl _
theorem barrowlaw02_name.calls (k : Nat) (a0_0 : Int) (a0_1 : ByteArray) (a0_2 : ByteArray) (a0_3 : Int) (A0_4 : Option Addr) (c0_4 : Nat) (l0_4 : List Int) (r : Bool) (w : World) (hr0_4 : Kd.C (Kd.int .i64) w A0_4 l0_4.length l0_4) (hc0_4 : l0_4.length ≤ c0_4) (h : barrowlaw02_name.f k a0_0 a0_1 a0_2 a0_3 l0_4 = some r) :
  Calls Tryz.prog 28 #[.agg #[.int .i64 a0_0, .string a0_1, .string a0_2, .int .i64 a0_3, .slice A0_4 l0_4.length c0_4]] w fun e w' => e = .returned (.bool r) ∧ Below w.heap.size w w' := by
  unfold barrowlaw02_name.f at h
  cases h
def barrowlaw02_article.f (k : Nat) (a0_0 : Int) (a0_1 : ByteArray) (a0_2 : ByteArray) (a0_3 : Int) (l0_4 : List Int) : Option (Bool) := none
theorem barrowlaw02_article.mono : ∀ a0_0 a0_1 a0_2 a0_3 l0_4 k, LeO (barrowlaw02_article.f k a0_0 a0_1 a0_2 a0_3 l0_4) (barrowlaw02_article.f (k + 1) a0_0 a0_1 a0_2 a0_3 l0_4) := fun _ _ _ _ _ _ => LeO.refl _
theorem barrowlaw02_article.calls (k : Nat) (a0_0 : Int) (a0_1 : ByteArray) (a0_2 : ByteArray) (a0_3 : Int) (A0_4 : Option Addr) (c0_4 : Nat) (l0_4 : List Int) (r : Bool) (w : World) (hr0_4 : Kd.C (Kd.int .i64) w A0_4 l0_4.length l0_4) (hc0_4 : l0_4.length ≤ c0_4) (h : barrowlaw02_article.f k a0_0 a0_1 a0_2 a0_3 l0_4 = some r) :
  Calls Tryz.prog 29 #[.agg #[.int .i64 a0_0, .string a0_1, .string a0_2, .int .i64 a0_3, .slice A0_4 l0_4.length c0_4]] w fun e w' => e = .returned (.bool r) ∧ Below w.heap.size w w' := by
  unfold barrowlaw02_article.f at h
  cases h
def barrowlaw02_quantity.f (k : Nat) (a0_0 : Int) (a0_1 : ByteArray) (a0_2 : ByteArray) (a0_3 : Int) (l0_4 : List Int) : Option (Bool) := none
theorem barrowlaw02_quantity.mono : ∀ a0_0 a0_1 a0_2 a0_3 l0_4 k, LeO (barrowlaw02_quantity.f k a0_0 a0_1 a0_2 a0_3 l0_4) (barrowlaw02_quantity.f (k + 1) a0_0 a0_1 a0_2 a0_3 l0_4) := fun _ _ _ _ _ _ => LeO.refl _
theorem barrowlaw02_quantity.calls (k : Nat) (a0_0 : Int) (a0_1 : ByteArray) (a0_2 : ByteArray) (a0_3 : Int) (A0_4 : Option Addr) (c0_4 : Nat) (l0_4 : List Int) (r : Bool) (w : World) (hTab : Aside0 (Tab w)) (hr0_4 : Kd.C (Kd.int .i64) w A0_4 l0_4.length l0_4) (hc0_4 : l0_4.length ≤ c0_4) (h : barrowlaw02_quantity.f k a0_0 a0_1 a0_2 a0_3 l0_4 = some r) :
  Calls Tryz.prog 32 #[.agg #[.int .i64 a0_0, .string a0_1, .string a0_2, .int .i64 a0_3, .slice A0_4 l0_4.length c0_4]] w fun e w' => e = .returned (.bool r) ∧ Below w.heap.size w w' := by
  unfold barrowlaw02_quantity.f at h
  cases h
def goods_Compare.f (k : Nat) (a0 : ByteArray) (a1 : ByteArray) : Option (Int) := none
theorem goods_Compare.mono : ∀ a0 a1 k, LeO (goods_Compare.f k a0 a1) (goods_Compare.f (k + 1) a0 a1) := fun _ _ _ => LeO.refl _
theorem goods_Compare.calls (k : Nat) (a0 : ByteArray) (a1 : ByteArray) (r : Int) (w : World) (h : goods_Compare.f k a0 a1 = some r) :
  Calls Tryz.prog 14 #[.string a0, .string a1] w fun e w' => e = .returned (.int .i64 r) ∧ Below w.heap.size w w' := by
  unfold goods_Compare.f at h
  cases h
def barrowref02_Compare.f (k : Nat) (a0 : ByteArray) (a1 : ByteArray) : Option (Int) := none
theorem barrowref02_Compare.mono : ∀ a0 a1 k, LeO (barrowref02_Compare.f k a0 a1) (barrowref02_Compare.f (k + 1) a0 a1) := fun _ _ _ => LeO.refl _
theorem barrowref02_Compare.calls (k : Nat) (a0 : ByteArray) (a1 : ByteArray) (r : Int) (w : World) (h : barrowref02_Compare.f k a0 a1 = some r) :
  Calls Tryz.prog 31 #[.string a0, .string a1] w fun e w' => e = .returned (.int .i64 r) ∧ Drawn0 w w' := by
  unfold barrowref02_Compare.f at h
  cases h
end Go.Proofs.YtmicghhmbojkfaaGreatDoor.G

-- PRINTED by print.py (a twelfth state) out of the translation. Not trusted: Lean checks it.
namespace Go.Proofs.YtmicghhmbojkfaaGreatDoor.G
open Go.RowKit Go.Proofs.YtmicghhmbojkfaaGreatDoorW.PrintWords Go.Proofs.YtmicghhmbojkfaaGreatDoorW.PrintLast Go.Proofs.YtmicghhmbojkfaaGreatDoorW.PrintMore
attribute [local go_sem] max2_int min2_int max_two min_two max_three min_three max_four min_four   -- for this text's walks alone
set_option linter.unusedVariables false
set_option linter.unusedSimpArgs false

/-! ### barrowlaw02_plays: function 16 -/
mutual
def barrowlaw02_plays.j0 : Nat → Int → Bool → Int → ByteArray → ByteArray → Int → List Int → Option (Bool)
 | 0, _, _, _, _, _, _, _ => none
 | k + 1, x4, x5, x282000, x282001, x282002, x282003, x282004 => if x5 = true then ((barrowlaw02_name.f k x282000 x282001 x282002 x282003 x282004).bind fun t282 => (some t282)) else (if x4 = 3 then (barrowlaw02_plays.j1 k x4 (x4 == 3) x282000 x282001 x282002 x282003 x282004) else (if x4 = 4 then (barrowlaw02_plays.j1 k x4 (x4 == 4) x282000 x282001 x282002 x282003 x282004) else (barrowlaw02_plays.j1 k x4 (x4 == 5) x282000 x282001 x282002 x282003 x282004)))
def barrowlaw02_plays.j1 : Nat → Int → Bool → Int → ByteArray → ByteArray → Int → List Int → Option (Bool)
 | 0, _, _, _, _, _, _, _ => none
 | k + 1, x4, x11, x282000, x282001, x282002, x282003, x282004 => if x11 = true then ((barrowlaw02_article.f k x282000 x282001 x282002 x282003 x282004).bind fun t283 => (some t283)) else (if x4 = 6 then ((barrowlaw02_match.f k x282001 x282002).bind fun t284 => (some t284)) else (if x4 = 12 then ((barrowlaw02_match.f k x282001 x282002).bind fun t285 => (if t285 = true then ((barrowlaw02_match.f k x282002 x282002).bind fun t286 => (some t286)) else (some false))) else (if x4 = 7 then ((goods_Compare.f k x282001 x282002).bind fun t287 => ((barrowref02_Compare.f k x282001 x282002).bind fun t288 => (some (t287 == t288)))) else (if x4 = 8 then ((barrowlaw02_quantity.f k x282000 x282001 x282002 x282003 x282004).bind fun t289 => (some t289)) else (if x4 = 9 then ((barrowlaw02_quantity.f k x282000 x282001 x282002 x282003 x282004).bind fun t290 => (some t290)) else (if x4 = 10 then ((barrowlaw02_quantity.f k x282000 x282001 x282002 x282003 x282004).bind fun t291 => (some t291)) else (some true)))))))
end
def barrowlaw02_plays.f (k : Nat) (a0_0 : Int) (a0_1 : ByteArray) (a0_2 : ByteArray) (a0_3 : Int) (l0_4 : List Int) : Option (Bool) := if a0_0 = 1 then (barrowlaw02_plays.j0 k a0_0 (a0_0 == 1) a0_0 a0_1 a0_2 a0_3 l0_4) else (if a0_0 = 2 then (barrowlaw02_plays.j0 k a0_0 (a0_0 == 2) a0_0 a0_1 a0_2 a0_3 l0_4) else (barrowlaw02_plays.j0 k a0_0 (a0_0 == 11) a0_0 a0_1 a0_2 a0_3 l0_4))
theorem barrowlaw02_plays.mono_l : ∀ k, (∀ y0 y1 y2 y3 y4 y5 y6, LeO (barrowlaw02_plays.j0 k y0 y1 y2 y3 y4 y5 y6) (barrowlaw02_plays.j0 (k + 1) y0 y1 y2 y3 y4 y5 y6)) ∧ (∀ y0 y1 y2 y3 y4 y5 y6, LeO (barrowlaw02_plays.j1 k y0 y1 y2 y3 y4 y5 y6) (barrowlaw02_plays.j1 (k + 1) y0 y1 y2 y3 y4 y5 y6))
 | 0 => ⟨fun _ _ _ _ _ _ _ r h => by simp [barrowlaw02_plays.j0] at h, fun _ _ _ _ _ _ _ r h => by simp [barrowlaw02_plays.j1] at h⟩
 | k + 1 => by
  obtain ⟨ih0, ih1⟩ := barrowlaw02_plays.mono_l k
  refine ⟨?_, ?_⟩
  ·intro y0 y1 y2 y3 y4 y5 y6
   unfold barrowlaw02_plays.j0
   repeat' first
   | (with_reducible exact ih0 _ _ _ _ _ _ _)
   | (with_reducible exact ih1 _ _ _ _ _ _ _)
   | (with_reducible exact barrowlaw02_article.mono _ _ _ _ _ _)
   | (with_reducible exact barrowlaw02_match.mono _ _ _)
   | (with_reducible exact barrowlaw02_name.mono _ _ _ _ _ _)
   | (with_reducible exact barrowlaw02_quantity.mono _ _ _ _ _ _)
   | (with_reducible exact barrowref02_Compare.mono _ _ _)
   | (with_reducible exact goods_Compare.mono _ _ _)
   | (with_reducible exact LeO.refl _)
   | (with_reducible exact LeO.none _)
   | (with_reducible refine LeO.ite ?_ ?_)
   | (with_reducible refine LeO.bind ?_ (fun _ => ?_))
   | exact ih0 _ _ _ _ _ _ _
   | exact ih1 _ _ _ _ _ _ _
   | exact barrowlaw02_article.mono _ _ _ _ _ _
   | exact barrowlaw02_match.mono _ _ _
   | exact barrowlaw02_name.mono _ _ _ _ _ _
   | exact barrowlaw02_quantity.mono _ _ _ _ _ _
   | exact barrowref02_Compare.mono _ _ _
   | exact goods_Compare.mono _ _ _
   | exact LeO.none _
   | refine LeO.ite ?_ ?_
   | refine LeO.bind ?_ (fun _ => ?_)
  ·intro y0 y1 y2 y3 y4 y5 y6
   unfold barrowlaw02_plays.j1
   repeat' first
   | (with_reducible exact ih0 _ _ _ _ _ _ _)
   | (with_reducible exact ih1 _ _ _ _ _ _ _)
   | (with_reducible exact barrowlaw02_article.mono _ _ _ _ _ _)
   | (with_reducible exact barrowlaw02_match.mono _ _ _)
   | (with_reducible exact barrowlaw02_name.mono _ _ _ _ _ _)
   | (with_reducible exact barrowlaw02_quantity.mono _ _ _ _ _ _)
   | (with_reducible exact barrowref02_Compare.mono _ _ _)
   | (with_reducible exact goods_Compare.mono _ _ _)
   | (with_reducible exact LeO.refl _)
   | (with_reducible exact LeO.none _)
   | (with_reducible refine LeO.ite ?_ ?_)
   | (with_reducible refine LeO.bind ?_ (fun _ => ?_))
   | exact ih0 _ _ _ _ _ _ _
   | exact ih1 _ _ _ _ _ _ _
   | exact barrowlaw02_article.mono _ _ _ _ _ _
   | exact barrowlaw02_match.mono _ _ _
   | exact barrowlaw02_name.mono _ _ _ _ _ _
   | exact barrowlaw02_quantity.mono _ _ _ _ _ _
   | exact barrowref02_Compare.mono _ _ _
   | exact goods_Compare.mono _ _ _
   | exact LeO.none _
   | refine LeO.ite ?_ ?_
   | refine LeO.bind ?_ (fun _ => ?_)
theorem barrowlaw02_plays.mono : ∀ a0 a1 a2 a3 a4 k, LeO (barrowlaw02_plays.f k a0 a1 a2 a3 a4) (barrowlaw02_plays.f (k + 1) a0 a1 a2 a3 a4) := by
 intro a0 a1 a2 a3 a4 k
 obtain ⟨ih0, ih1⟩ := barrowlaw02_plays.mono_l k
 unfold barrowlaw02_plays.f
 repeat' first
   | (with_reducible exact ih0 _ _ _ _ _ _ _)
   | (with_reducible exact ih1 _ _ _ _ _ _ _)
   | (with_reducible exact barrowlaw02_article.mono _ _ _ _ _ _)
   | (with_reducible exact barrowlaw02_match.mono _ _ _)
   | (with_reducible exact barrowlaw02_name.mono _ _ _ _ _ _)
   | (with_reducible exact barrowlaw02_quantity.mono _ _ _ _ _ _)
   | (with_reducible exact barrowref02_Compare.mono _ _ _)
   | (with_reducible exact goods_Compare.mono _ _ _)
   | (with_reducible exact LeO.refl _)
   | (with_reducible exact LeO.none _)
   | (with_reducible refine LeO.ite ?_ ?_)
   | (with_reducible refine LeO.bind ?_ (fun _ => ?_))
   | exact ih0 _ _ _ _ _ _ _
   | exact ih1 _ _ _ _ _ _ _
   | exact barrowlaw02_article.mono _ _ _ _ _ _
   | exact barrowlaw02_match.mono _ _ _
   | exact barrowlaw02_name.mono _ _ _ _ _ _
   | exact barrowlaw02_quantity.mono _ _ _ _ _ _
   | exact barrowref02_Compare.mono _ _ _
   | exact goods_Compare.mono _ _ _
   | exact LeO.none _
   | refine LeO.ite ?_ ?_
   | refine LeO.bind ?_ (fun _ => ?_)
def barrowlaw02_plays.T15 : Bool × List (List Nat × List Nat) := (true, [([], []), ([0], [0]), ([], []), ([2], [2]), ([1, 3], [1, 3]), ([], []), ([5], [5]), ([], []), ([7], [7]), ([6, 8, 4], [6, 8]), ([4, 9], [4, 9]), ([10, 9, 0, 1, 2, 3, 4, 5, 6, 7, 8, 9, 10], [10])])
def barrowlaw02_plays.B15 : List Nat := [0, 1, 0, 4, 15, 0, 32, 0, 128, 511, 1023, 2047]
theorem barrowlaw02_plays.tab15 : rtab .any (opsOf Tryz.f16 15) = barrowlaw02_plays.T15 := by kernel_rfl
theorem barrowlaw02_plays.bits15 : waitsOk barrowlaw02_plays.T15.2 barrowlaw02_plays.B15 = true := by kernel_rfl
set_option maxHeartbeats 8000000 in
set_option maxRecDepth 100000 in
theorem barrowlaw02_plays.calls (k : Nat) (a0_0 : Int) (a0_1 : ByteArray) (a0_2 : ByteArray) (a0_3 : Int) (A0_4 : Option Addr) (c0_4 : Nat) (l0_4 : List Int) (r : Bool) (w : World) (hTab : Aside0 (Tab w)) (hr0_4 : Kd.C (Kd.int .i64) w A0_4 l0_4.length l0_4) (hc0_4 : l0_4.length ≤ c0_4) (h : barrowlaw02_plays.f k a0_0 a0_1 a0_2 a0_3 l0_4 = some r) :
  Calls Tryz.prog 16 #[.agg #[.int .i64 a0_0, .string a0_1, .string a0_2, .int .i64 a0_3, .slice A0_4 l0_4.length c0_4]] w fun e w' => e = .returned (.bool r) ∧ Below w.heap.size w w' := by
 have hu35 := Tryz.underlying35
 have HR0_4 := Aside0.mk hr0_4
 have HC0_4 := Aside0.mk hc0_4
 clear hr0_4 hc0_4
 have HB := Aside0.mk (Below.refl w.heap.size w)
 have H : (if a0_0 = 1 then (barrowlaw02_plays.j0 k a0_0 (a0_0 == 1) a0_0 a0_1 a0_2 a0_3 l0_4) else (if a0_0 = 2 then (barrowlaw02_plays.j0 k a0_0 (a0_0 == 2) a0_0 a0_1 a0_2 a0_3 l0_4) else (barrowlaw02_plays.j0 k a0_0 (a0_0 == 11) a0_0 a0_1 a0_2 a0_3 l0_4))) = some r := h
 clear h
 have HC2 := Aside0.mk H
 clear H
 go_enter Tryz.func16, Tryz.ntmps16
 go_upto_if 5 with (first | ((with_reducible refine gate_dst (N := 1) rfl ?_); refine box_event ?hg (N := 1) ?hd (cs := #[.int .i64 a0_0, .string a0_1, .string a0_2, .int .i64 a0_3, .slice A0_4 l0_4.length c0_4]) (t := 35) ?hr ?_; (case hd => rfl); (case hg => rfl); (case hr => first | (go_simp; done) | (go_simp; rfl)); intro gb281 hg w3 hbox hb; have n0_ := Aside0.mk (below_step (by repeat (first | (with_reducible first | exact HB.out | apply below_alloc | apply pw_below_drewN | apply below_drew1) | exact HB.out)) hb); have n1_ := Aside0.mk (hbox); have n2_ := Aside0.mk ((by rw [hg]; exact (below_size (by repeat (first | (with_reducible first | exact HB.out | apply below_alloc | apply pw_below_drewN | apply below_drew1) | exact HB.out))) : w.heap.size ≤ gb281)); have n3_ := Aside0.mk ((by rw [hg]; exact (below_size (by repeat (first | (with_reducible first | exact HB.out | apply below_alloc | apply pw_below_drewN | apply below_drew1) | exact HB.out))) : w.heap.size ≤ gb281)); clear HB; have HB := n0_; have BK281 := n1_; have GW281 := n2_; have GE281 := n3_; clear n0_ n1_ n2_ n3_; clear hb hbox hg; have hcz4_0 : w3.cell? ⟨gb281, 0, none⟩ = some (.int .i64 a0_0) := (blk_cell BK281.out 0).trans rfl; have hcz4_1 : w3.cell? ⟨gb281, 1, none⟩ = some (.string a0_1) := (blk_cell BK281.out 1).trans rfl; have hcz4_2 : w3.cell? ⟨gb281, 2, none⟩ = some (.string a0_2) := (blk_cell BK281.out 2).trans rfl; have hcz4_3 : w3.cell? ⟨gb281, 3, none⟩ = some (.int .i64 a0_3) := (blk_cell BK281.out 3).trans rfl; have hcz4_4 : w3.cell? ⟨gb281, 4, none⟩ = some (.slice A0_4 l0_4.length c0_4) := (blk_cell BK281.out 4).trans rfl; have hfz4_0 := blk_frozen BK281.out 0; have hfz4_1 := blk_frozen BK281.out 1; have hfz4_2 := blk_frozen BK281.out 2; have hfz4_3 := blk_frozen BK281.out 3; have hfz4_4 := blk_frozen BK281.out 4))
 (try simp only [Act.put, List.setIfInBounds_toArray, List.set_cons_zero, List.set_cons_succ])
 go_cut [5] (fun v5 wc => ∃ (kq : Nat) (x5_1 : Bool), v5 = .bool x5_1 ∧ Aside0 (barrowlaw02_plays.j0 kq a0_0 x5_1 a0_0 a0_1 a0_2 a0_3 l0_4 = some r) ∧ Aside0 (kq ≤ k) ∧ Aside0 (wc.heap[gb281]? = some (.cells #[.int .i64 a0_0, .string a0_1, .string a0_2, .int .i64 a0_3, (.slice A0_4 l0_4.length c0_4)] 35 (0, 0))) ∧ Aside0 (Below w.heap.size w wc))
 case first =>
  have H := HC2.out
  clear HC2
  by_cases c5 : a0_0 = 1
  ·rw [if_pos c5] at H
   have c5b0 : (a0_0 == 1) = true := beq_iff_eq.mpr c5
   have c5b1 : (a0_0 != 1) = false := bne_eq_false_iff_eq.mpr c5
   clear c5
   (first | rw [c5b0] | (simp only [i64_w, i32_w]; rw [c5b0]) | skip)
   have H' := Aside0.mk H
   clear H
   go_wp2
   go_meet
   case rel => exact ⟨_, ((a0_0 == 1)), (by first | rfl | (simp; done) | (simp [*]; done)), H', ⟨by first | omega | exact Nat.le_refl _⟩, ⟨by (with_reducible repeat (first | refine blk_drewN ?_ _ | refine blk_drew ?_ | refine blk_alloc ?_ _)); exact BK281.out⟩, ⟨by repeat (first | (with_reducible first | exact HB.out | apply below_alloc | apply pw_below_drewN | apply below_drew1 | refine below_set ?_ GE281.out) | exact HB.out)⟩⟩
  ·rw [if_neg c5] at H
   have c5b0 : (a0_0 == 1) = false := beq_eq_false_iff_ne.mpr c5
   have c5b1 : (a0_0 != 1) = true := bne_iff_ne.mpr c5
   (first | rw [c5b0] | (simp only [i64_w, i32_w]; rw [c5b0]) | skip)
   by_cases c6 : a0_0 = 2
   ·rw [if_pos c6] at H
    have c6b0 : (a0_0 == 2) = true := beq_iff_eq.mpr c6
    have c6b1 : (a0_0 != 2) = false := bne_eq_false_iff_eq.mpr c6
    clear c6
    have H' := Aside0.mk H
    clear H
    go_wp2
    go_meet
    case rel => exact ⟨_, ((a0_0 == 2)), (by first | rfl | (simp; done) | (simp [*]; done)), H', ⟨by first | omega | exact Nat.le_refl _⟩, ⟨by (with_reducible repeat (first | refine blk_drewN ?_ _ | refine blk_drew ?_ | refine blk_alloc ?_ _)); exact BK281.out⟩, ⟨by repeat (first | (with_reducible first | exact HB.out | apply below_alloc | apply pw_below_drewN | apply below_drew1 | refine below_set ?_ GE281.out) | exact HB.out)⟩⟩
   ·rw [if_neg c6] at H
    have c6b0 : (a0_0 == 2) = false := beq_eq_false_iff_ne.mpr c6
    have c6b1 : (a0_0 != 2) = true := bne_iff_ne.mpr c6
    have H' := Aside0.mk H
    clear H
    go_wp2
    go_meet
    case rel => exact ⟨_, ((a0_0 == 11)), (by first | rfl | (simp; done) | (simp [*]; done)), H', ⟨by first | omega | exact Nat.le_refl _⟩, ⟨by (with_reducible repeat (first | refine blk_drewN ?_ _ | refine blk_drew ?_ | refine blk_alloc ?_ _)); exact BK281.out⟩, ⟨by repeat (first | (with_reducible first | exact HB.out | apply below_alloc | apply pw_below_drewN | apply below_drew1 | refine below_set ?_ GE281.out) | exact HB.out)⟩⟩
 case rest =>
  clear HC2
  try clear c1
  try clear p2
  try clear c5
  try clear c5b0
  try clear c5b1
  try clear c6
  try clear c6b0
  try clear c6b1
  try clear hcz4_0
  try clear hcz4_1
  try clear hcz4_2
  try clear hcz4_3
  try clear hcz4_4
  try clear hfz4_0
  try clear hfz4_1
  try clear hfz4_2
  try clear hfz4_3
  try clear hfz4_4
  obtain ⟨kq, x5_1, rfl, HA, HJ1, BK281, HB⟩ := hcut
  cases kq with
  | zero => exact absurd HA.out (by simp [barrowlaw02_plays.j0])
  | succ kj1 =>
   have H := HA.out
   clear HA
   simp only [barrowlaw02_plays.j0] at H
   by_cases c7 : x5_1 = true
   ·subst c7
    have H1 : ((barrowlaw02_name.f kj1 a0_0 a0_1 a0_2 a0_3 l0_4).bind fun t282 => (some t282)) = some r := by rw [if_pos rfl] at H; exact H
    clear H
    have H := H1
    clear H1
    replace H := Option.bind_eq_some_iff.mp H
    obtain ⟨t282, A80, H⟩ := H
    replace H : (some t282) = some r := H
    have A8 := Aside0.mk A80
    clear A80
    obtain rfl := Option.some.inj H
    have hcz9_0 : wc.cell? ⟨gb281, 0, none⟩ = some (.int .i64 a0_0) := (blk_cell BK281.out 0).trans rfl
    have hcz9_1 : wc.cell? ⟨gb281, 1, none⟩ = some (.string a0_1) := (blk_cell BK281.out 1).trans rfl
    have hcz9_2 : wc.cell? ⟨gb281, 2, none⟩ = some (.string a0_2) := (blk_cell BK281.out 2).trans rfl
    have hcz9_3 : wc.cell? ⟨gb281, 3, none⟩ = some (.int .i64 a0_3) := (blk_cell BK281.out 3).trans rfl
    have hcz9_4 : wc.cell? ⟨gb281, 4, none⟩ = some (.slice A0_4 l0_4.length c0_4) := (blk_cell BK281.out 4).trans rfl
    have hfz9_0 := blk_frozen BK281.out 0
    have hfz9_1 := blk_frozen BK281.out 1
    have hfz9_2 := blk_frozen BK281.out 2
    have hfz9_3 := blk_frozen BK281.out 3
    have hfz9_4 := blk_frozen BK281.out 4
    go_wp2_with (first | ((with_reducible refine gate_callee (f := 28) rfl ?_); refine goesL_ (some 10) rfl rfl Tryz.func28 (by kernel_rfl) rfl #[.agg #[.int .i64 a0_0, .string a0_1, .string a0_2, .int .i64 a0_3, .slice A0_4 l0_4.length c0_4]] rfl (by (try simp only [List.map_toArray, List.map_cons, List.map_nil]); first | done | rfl | (simp only [List.length_drop, List.length_take]; rfl)) ?_; (with_reducible refine (barrowlaw02_name.calls kj1 a0_0 a0_1 a0_2 a0_3 _ _ l0_4 t282 _ ?side1 ?side2 A8.out).mono ?_); (case side1 => repeat (first | exact (Kd.C_below HR0_4.out HB.out) | (with_reducible refine Kd.C_alloc ?_ _) | (with_reducible refine Kd.C_drewN ?_ _) | (with_reducible refine Kd.C_drew ?_))); (case side2 => exact HC0_4.out); rintro e w10 ⟨rfl, hb⟩; refine ⟨_, rfl, ?_⟩; have n0_ := Aside0.mk (blk_below (g := gb281) (o := .cells #[.int .i64 a0_0, .string a0_1, .string a0_2, .int .i64 a0_3, .slice A0_4 l0_4.length c0_4] 35 (0, 0)) (by (with_reducible repeat (first | refine blk_drewN ?_ _ | refine blk_drew ?_ | refine blk_alloc ?_ _)); exact BK281.out) hb); have n1_ := Aside0.mk (below_step (by repeat (first | (with_reducible first | exact HB.out | apply below_alloc | apply pw_below_drewN | apply below_drew1 | refine below_set ?_ GE281.out) | exact HB.out)) hb); clear BK281; clear HB; have BK281 := n0_; have HB := n1_; clear n0_ n1_; (try clear hb); (try clear hb2); (try clear hk); (try clear hi)))
    go_ret
    exact ⟨by first | rfl | (simp [errW_none, errW_some] <;> rfl) | (simp [*, errW_none, errW_some] <;> rfl), by repeat (first | (with_reducible first | exact HB.out | apply below_alloc | apply pw_below_drewN | apply below_drew1 | refine below_set ?_ GE281.out) | exact HB.out)⟩
   ·replace c7 := Bool.eq_false_iff.mpr c7
    subst c7
    have H1 : (if a0_0 = 3 then (barrowlaw02_plays.j1 kj1 a0_0 (a0_0 == 3) a0_0 a0_1 a0_2 a0_3 l0_4) else (if a0_0 = 4 then (barrowlaw02_plays.j1 kj1 a0_0 (a0_0 == 4) a0_0 a0_1 a0_2 a0_3 l0_4) else (barrowlaw02_plays.j1 kj1 a0_0 (a0_0 == 5) a0_0 a0_1 a0_2 a0_3 l0_4))) = some r := by rw [if_neg (show ¬ (false = true) by decide)] at H; exact H
    clear H
    have H := H1
    clear H1
    have HC11 := Aside0.mk H
    clear H
    go_upto_if 11 with (fail)
    go_cut [11] (fun v11 wc => ∃ (kq : Nat) (x11_10 : Bool), v11 = .bool x11_10 ∧ Aside0 (barrowlaw02_plays.j1 kq a0_0 x11_10 a0_0 a0_1 a0_2 a0_3 l0_4 = some r) ∧ Aside0 (kq ≤ kj1) ∧ Aside0 (wc.heap[gb281]? = some (.cells #[.int .i64 a0_0, .string a0_1, .string a0_2, .int .i64 a0_3, (.slice A0_4 l0_4.length c0_4)] 35 (0, 0))) ∧ Aside0 (Below w.heap.size w wc))
    case first =>
     have H := HC11.out
     clear HC11
     by_cases c12 : a0_0 = 3
     ·rw [if_pos c12] at H
      have c12b0 : (a0_0 == 3) = true := beq_iff_eq.mpr c12
      have c12b1 : (a0_0 != 3) = false := bne_eq_false_iff_eq.mpr c12
      clear c12
      (first | rw [c12b0] | (simp only [i64_w, i32_w]; rw [c12b0]) | skip)
      have H' := Aside0.mk H
      clear H
      go_wp2
      go_meet
      case rel => exact ⟨_, ((a0_0 == 3)), (by first | rfl | (simp; done) | (simp [*]; done)), H', ⟨by have := HJ1.out; first | omega | exact Nat.le_refl _⟩, ⟨by (with_reducible repeat (first | refine blk_drewN ?_ _ | refine blk_drew ?_ | refine blk_alloc ?_ _)); exact BK281.out⟩, ⟨by repeat (first | (with_reducible first | exact HB.out | apply below_alloc | apply pw_below_drewN | apply below_drew1 | refine below_set ?_ GE281.out) | exact HB.out)⟩⟩
     ·rw [if_neg c12] at H
      have c12b0 : (a0_0 == 3) = false := beq_eq_false_iff_ne.mpr c12
      have c12b1 : (a0_0 != 3) = true := bne_iff_ne.mpr c12
      (first | rw [c12b0] | (simp only [i64_w, i32_w]; rw [c12b0]) | skip)
      by_cases c13 : a0_0 = 4
      ·rw [if_pos c13] at H
       have c13b0 : (a0_0 == 4) = true := beq_iff_eq.mpr c13
       have c13b1 : (a0_0 != 4) = false := bne_eq_false_iff_eq.mpr c13
       clear c13
       have H' := Aside0.mk H
       clear H
       go_wp2
       go_meet
       case rel => exact ⟨_, ((a0_0 == 4)), (by first | rfl | (simp; done) | (simp [*]; done)), H', ⟨by have := HJ1.out; first | omega | exact Nat.le_refl _⟩, ⟨by (with_reducible repeat (first | refine blk_drewN ?_ _ | refine blk_drew ?_ | refine blk_alloc ?_ _)); exact BK281.out⟩, ⟨by repeat (first | (with_reducible first | exact HB.out | apply below_alloc | apply pw_below_drewN | apply below_drew1 | refine below_set ?_ GE281.out) | exact HB.out)⟩⟩
      ·rw [if_neg c13] at H
       have c13b0 : (a0_0 == 4) = false := beq_eq_false_iff_ne.mpr c13
       have c13b1 : (a0_0 != 4) = true := bne_iff_ne.mpr c13
       have H' := Aside0.mk H
       clear H
       go_wp2
       go_meet
       case rel => exact ⟨_, ((a0_0 == 5)), (by first | rfl | (simp; done) | (simp [*]; done)), H', ⟨by have := HJ1.out; first | omega | exact Nat.le_refl _⟩, ⟨by (with_reducible repeat (first | refine blk_drewN ?_ _ | refine blk_drew ?_ | refine blk_alloc ?_ _)); exact BK281.out⟩, ⟨by repeat (first | (with_reducible first | exact HB.out | apply below_alloc | apply pw_below_drewN | apply below_drew1 | refine below_set ?_ GE281.out) | exact HB.out)⟩⟩
    case rest =>
     clear HC11
     try clear c1
     try clear c2
     try clear p2
     try clear c5
     try clear c5b0
     try clear c5b1
     try clear c6
     try clear c6b0
     try clear c6b1
     try clear c7
     try clear c12
     try clear c12b0
     try clear c12b1
     try clear c13
     try clear c13b0
     try clear c13b1
     try clear hcz4_0
     try clear hcz4_1
     try clear hcz4_2
     try clear hcz4_3
     try clear hcz4_4
     try clear hcz9_0
     try clear hcz9_1
     try clear hcz9_2
     try clear hcz9_3
     try clear hcz9_4
     try clear hfz4_0
     try clear hfz4_1
     try clear hfz4_2
     try clear hfz4_3
     try clear hfz4_4
     try clear hfz9_0
     try clear hfz9_1
     try clear hfz9_2
     try clear hfz9_3
     try clear hfz9_4
     try clear p2
     obtain ⟨kq, x11_10, rfl, HA, HJ10, BK281, HB⟩ := hcut
     cases kq with
     | zero => exact absurd HA.out (by simp [barrowlaw02_plays.j1])
     | succ kj10 =>
      have H := HA.out
      clear HA
      simp only [barrowlaw02_plays.j1] at H
      by_cases c14 : x11_10 = true
      ·subst c14
       have H1 : ((barrowlaw02_article.f kj10 a0_0 a0_1 a0_2 a0_3 l0_4).bind fun t283 => (some t283)) = some r := by rw [if_pos rfl] at H; exact H
       clear H
       have H := H1
       clear H1
       replace H := Option.bind_eq_some_iff.mp H
       obtain ⟨t283, A150, H⟩ := H
       replace H : (some t283) = some r := H
       have A15 := Aside0.mk A150
       clear A150
       obtain rfl := Option.some.inj H
       have hcz16_0 : wc.cell? ⟨gb281, 0, none⟩ = some (.int .i64 a0_0) := (blk_cell BK281.out 0).trans rfl
       have hcz16_1 : wc.cell? ⟨gb281, 1, none⟩ = some (.string a0_1) := (blk_cell BK281.out 1).trans rfl
       have hcz16_2 : wc.cell? ⟨gb281, 2, none⟩ = some (.string a0_2) := (blk_cell BK281.out 2).trans rfl
       have hcz16_3 : wc.cell? ⟨gb281, 3, none⟩ = some (.int .i64 a0_3) := (blk_cell BK281.out 3).trans rfl
       have hcz16_4 : wc.cell? ⟨gb281, 4, none⟩ = some (.slice A0_4 l0_4.length c0_4) := (blk_cell BK281.out 4).trans rfl
       have hfz16_0 := blk_frozen BK281.out 0
       have hfz16_1 := blk_frozen BK281.out 1
       have hfz16_2 := blk_frozen BK281.out 2
       have hfz16_3 := blk_frozen BK281.out 3
       have hfz16_4 := blk_frozen BK281.out 4
       go_wp2_with (first | ((with_reducible refine gate_callee (f := 29) rfl ?_); refine goesL_ (some 16) rfl rfl Tryz.func29 (by kernel_rfl) rfl #[.agg #[.int .i64 a0_0, .string a0_1, .string a0_2, .int .i64 a0_3, .slice A0_4 l0_4.length c0_4]] rfl (by (try simp only [List.map_toArray, List.map_cons, List.map_nil]); first | done | rfl | (simp only [List.length_drop, List.length_take]; rfl)) ?_; (with_reducible refine (barrowlaw02_article.calls kj10 a0_0 a0_1 a0_2 a0_3 _ _ l0_4 t283 _ ?side1 ?side2 A15.out).mono ?_); (case side1 => repeat (first | exact (Kd.C_below HR0_4.out HB.out) | (with_reducible refine Kd.C_alloc ?_ _) | (with_reducible refine Kd.C_drewN ?_ _) | (with_reducible refine Kd.C_drew ?_))); (case side2 => exact HC0_4.out); rintro e w17 ⟨rfl, hb⟩; refine ⟨_, rfl, ?_⟩; have n0_ := Aside0.mk (blk_below (g := gb281) (o := .cells #[.int .i64 a0_0, .string a0_1, .string a0_2, .int .i64 a0_3, .slice A0_4 l0_4.length c0_4] 35 (0, 0)) (by (with_reducible repeat (first | refine blk_drewN ?_ _ | refine blk_drew ?_ | refine blk_alloc ?_ _)); exact BK281.out) hb); have n1_ := Aside0.mk (below_step (by repeat (first | (with_reducible first | exact HB.out | apply below_alloc | apply pw_below_drewN | apply below_drew1 | refine below_set ?_ GE281.out) | exact HB.out)) hb); clear BK281; clear HB; have BK281 := n0_; have HB := n1_; clear n0_ n1_; (try clear hb); (try clear hb2); (try clear hk); (try clear hi)))
       go_ret
       exact ⟨by first | rfl | (simp [errW_none, errW_some] <;> rfl) | (simp [*, errW_none, errW_some] <;> rfl), by repeat (first | (with_reducible first | exact HB.out | apply below_alloc | apply pw_below_drewN | apply below_drew1 | refine below_set ?_ GE281.out) | exact HB.out)⟩
      ·replace c14 := Bool.eq_false_iff.mpr c14
       subst c14
       have H1 : (if a0_0 = 6 then ((barrowlaw02_match.f kj10 a0_1 a0_2).bind fun t284 => (some t284)) else (if a0_0 = 12 then ((barrowlaw02_match.f kj10 a0_1 a0_2).bind fun t285 => (if t285 = true then ((barrowlaw02_match.f kj10 a0_2 a0_2).bind fun t286 => (some t286)) else (some false))) else (if a0_0 = 7 then ((goods_Compare.f kj10 a0_1 a0_2).bind fun t287 => ((barrowref02_Compare.f kj10 a0_1 a0_2).bind fun t288 => (some (t287 == t288)))) else (if a0_0 = 8 then ((barrowlaw02_quantity.f kj10 a0_0 a0_1 a0_2 a0_3 l0_4).bind fun t289 => (some t289)) else (if a0_0 = 9 then ((barrowlaw02_quantity.f kj10 a0_0 a0_1 a0_2 a0_3 l0_4).bind fun t290 => (some t290)) else (if a0_0 = 10 then ((barrowlaw02_quantity.f kj10 a0_0 a0_1 a0_2 a0_3 l0_4).bind fun t291 => (some t291)) else (some true))))))) = some r := by rw [if_neg (show ¬ (false = true) by decide)] at H; exact H
       clear H
       have H := H1
       clear H1
       by_cases c18 : a0_0 = 6
       ·rw [if_pos c18] at H
        have c18b0 : (a0_0 == 6) = true := beq_iff_eq.mpr c18
        have c18b1 : (a0_0 != 6) = false := bne_eq_false_iff_eq.mpr c18
        clear c18
        replace H := Option.bind_eq_some_iff.mp H
        obtain ⟨t284, A190, H⟩ := H
        replace H : (some t284) = some r := H
        have A19 := Aside0.mk A190
        clear A190
        obtain rfl := Option.some.inj H
        have hcz20_0 : wc.cell? ⟨gb281, 0, none⟩ = some (.int .i64 a0_0) := (blk_cell BK281.out 0).trans rfl
        have hcz20_1 : wc.cell? ⟨gb281, 1, none⟩ = some (.string a0_1) := (blk_cell BK281.out 1).trans rfl
        have hcz20_2 : wc.cell? ⟨gb281, 2, none⟩ = some (.string a0_2) := (blk_cell BK281.out 2).trans rfl
        have hcz20_3 : wc.cell? ⟨gb281, 3, none⟩ = some (.int .i64 a0_3) := (blk_cell BK281.out 3).trans rfl
        have hcz20_4 : wc.cell? ⟨gb281, 4, none⟩ = some (.slice A0_4 l0_4.length c0_4) := (blk_cell BK281.out 4).trans rfl
        have hfz20_0 := blk_frozen BK281.out 0
        have hfz20_1 := blk_frozen BK281.out 1
        have hfz20_2 := blk_frozen BK281.out 2
        have hfz20_3 := blk_frozen BK281.out 3
        have hfz20_4 := blk_frozen BK281.out 4
        go_wp2_with (first | ((with_reducible refine gate_callee (f := 30) rfl ?_); refine goesL_ (some 23) rfl rfl Tryz.func30 (by kernel_rfl) rfl #[.string a0_1, .string a0_2] rfl (by (try simp only [List.map_toArray, List.map_cons, List.map_nil]); first | done | rfl | (simp only [List.length_drop, List.length_take]; rfl)) ?_; (with_reducible refine (barrowlaw02_match.calls kj10 a0_1 a0_2 t284 _ A19.out).mono ?_); rintro e w21 ⟨rfl, hb⟩; refine ⟨_, rfl, ?_⟩; have n0_ := Aside0.mk (blk_below (g := gb281) (o := .cells #[.int .i64 a0_0, .string a0_1, .string a0_2, .int .i64 a0_3, .slice A0_4 l0_4.length c0_4] 35 (0, 0)) (by (with_reducible repeat (first | refine blk_drewN ?_ _ | refine blk_drew ?_ | refine blk_alloc ?_ _)); exact BK281.out) hb); have n1_ := Aside0.mk (below_step (by repeat (first | (with_reducible first | exact HB.out | apply below_alloc | apply pw_below_drewN | apply below_drew1 | refine below_set ?_ GE281.out) | exact HB.out)) hb); clear BK281; clear HB; have BK281 := n0_; have HB := n1_; clear n0_ n1_; (try clear hb); (try clear hb2); (try clear hk); (try clear hi)))
        go_ret
        exact ⟨by first | rfl | (simp [errW_none, errW_some] <;> rfl) | (simp [*, errW_none, errW_some] <;> rfl), by repeat (first | (with_reducible first | exact HB.out | apply below_alloc | apply pw_below_drewN | apply below_drew1 | refine below_set ?_ GE281.out) | exact HB.out)⟩
       ·rw [if_neg c18] at H
        have c18b0 : (a0_0 == 6) = false := beq_eq_false_iff_ne.mpr c18
        have c18b1 : (a0_0 != 6) = true := bne_iff_ne.mpr c18
        by_cases c22 : a0_0 = 12
        ·rw [if_pos c22] at H
         have c22b0 : (a0_0 == 12) = true := beq_iff_eq.mpr c22
         have c22b1 : (a0_0 != 12) = false := bne_eq_false_iff_eq.mpr c22
         clear c22
         replace H := Option.bind_eq_some_iff.mp H
         obtain ⟨t285, A230, H⟩ := H
         replace H : (if t285 = true then ((barrowlaw02_match.f kj10 a0_2 a0_2).bind fun t286 => (some t286)) else (some false)) = some r := H
         have A23 := Aside0.mk A230
         clear A230
         by_cases c24 : t285 = true
         ·subst c24
          have H1 : ((barrowlaw02_match.f kj10 a0_2 a0_2).bind fun t286 => (some t286)) = some r := by rw [if_pos rfl] at H; exact H
          clear H
          have H := H1
          clear H1
          replace H := Option.bind_eq_some_iff.mp H
          obtain ⟨t286, A250, H⟩ := H
          replace H : (some t286) = some r := H
          have A25 := Aside0.mk A250
          clear A250
          obtain rfl := Option.some.inj H
          have hcz26_0 : wc.cell? ⟨gb281, 0, none⟩ = some (.int .i64 a0_0) := (blk_cell BK281.out 0).trans rfl
          have hcz26_1 : wc.cell? ⟨gb281, 1, none⟩ = some (.string a0_1) := (blk_cell BK281.out 1).trans rfl
          have hcz26_2 : wc.cell? ⟨gb281, 2, none⟩ = some (.string a0_2) := (blk_cell BK281.out 2).trans rfl
          have hcz26_3 : wc.cell? ⟨gb281, 3, none⟩ = some (.int .i64 a0_3) := (blk_cell BK281.out 3).trans rfl
          have hcz26_4 : wc.cell? ⟨gb281, 4, none⟩ = some (.slice A0_4 l0_4.length c0_4) := (blk_cell BK281.out 4).trans rfl
          have hfz26_0 := blk_frozen BK281.out 0
          have hfz26_1 := blk_frozen BK281.out 1
          have hfz26_2 := blk_frozen BK281.out 2
          have hfz26_3 := blk_frozen BK281.out 3
          have hfz26_4 := blk_frozen BK281.out 4
          go_wp2_with (first | ((with_reducible refine gate_callee (f := 30) rfl ?_); refine goesL_ (some 30) rfl rfl Tryz.func30 (by kernel_rfl) rfl #[.string a0_1, .string a0_2] rfl (by (try simp only [List.map_toArray, List.map_cons, List.map_nil]); first | done | rfl | (simp only [List.length_drop, List.length_take]; rfl)) ?_; (with_reducible refine (barrowlaw02_match.calls kj10 a0_1 a0_2 true _ A23.out).mono ?_); rintro e w27 ⟨rfl, hb⟩; refine ⟨_, rfl, ?_⟩; have n0_ := Aside0.mk (blk_below (g := gb281) (o := .cells #[.int .i64 a0_0, .string a0_1, .string a0_2, .int .i64 a0_3, .slice A0_4 l0_4.length c0_4] 35 (0, 0)) (by (with_reducible repeat (first | refine blk_drewN ?_ _ | refine blk_drew ?_ | refine blk_alloc ?_ _)); exact BK281.out) hb); have n1_ := Aside0.mk (below_step (by repeat (first | (with_reducible first | exact HB.out | apply below_alloc | apply pw_below_drewN | apply below_drew1 | refine below_set ?_ GE281.out) | exact HB.out)) hb); clear BK281; clear HB; have BK281 := n0_; have HB := n1_; clear n0_ n1_; (try clear hb); (try clear hb2); (try clear hk); (try clear hi); have hcz28_0 : w27.cell? ⟨gb281, 0, none⟩ = some (.int .i64 a0_0) := (blk_cell BK281.out 0).trans rfl; have hcz28_1 : w27.cell? ⟨gb281, 1, none⟩ = some (.string a0_1) := (blk_cell BK281.out 1).trans rfl; have hcz28_2 : w27.cell? ⟨gb281, 2, none⟩ = some (.string a0_2) := (blk_cell BK281.out 2).trans rfl; have hcz28_3 : w27.cell? ⟨gb281, 3, none⟩ = some (.int .i64 a0_3) := (blk_cell BK281.out 3).trans rfl; have hcz28_4 : w27.cell? ⟨gb281, 4, none⟩ = some (.slice A0_4 l0_4.length c0_4) := (blk_cell BK281.out 4).trans rfl; have hfz28_0 := blk_frozen BK281.out 0; have hfz28_1 := blk_frozen BK281.out 1; have hfz28_2 := blk_frozen BK281.out 2; have hfz28_3 := blk_frozen BK281.out 3; have hfz28_4 := blk_frozen BK281.out 4) | (go_at_call 30; (with_reducible refine (barrowlaw02_match.calls kj10 a0_2 a0_2 t286 _ A25.out).mono ?_); rintro e w29 ⟨rfl, hb⟩; have n0_ := Aside0.mk (blk_below (g := gb281) (o := .cells #[.int .i64 a0_0, .string a0_1, .string a0_2, .int .i64 a0_3, .slice A0_4 l0_4.length c0_4] 35 (0, 0)) (by (with_reducible repeat (first | refine blk_drewN ?_ _ | refine blk_drew ?_ | refine blk_alloc ?_ _)); exact BK281.out) hb); have n1_ := Aside0.mk (below_step (by repeat (first | (with_reducible first | exact HB.out | apply below_alloc | apply pw_below_drewN | apply below_drew1 | refine below_set ?_ GE281.out) | exact HB.out)) hb); clear BK281; clear HB; have BK281 := n0_; have HB := n1_; clear n0_ n1_; (try clear hb); (try clear hb2); (try clear hk); (try clear hi)))
          go_ret
          exact ⟨by first | rfl | (simp [errW_none, errW_some] <;> rfl) | (simp [*, errW_none, errW_some] <;> rfl), by repeat (first | (with_reducible first | exact HB.out | apply below_alloc | apply pw_below_drewN | apply below_drew1 | refine below_set ?_ GE281.out) | exact HB.out)⟩
         ·replace c24 := Bool.eq_false_iff.mpr c24
          subst c24
          have H1 : (some false) = some r := by rw [if_neg (show ¬ (false = true) by decide)] at H; exact H
          clear H
          have H := H1
          clear H1
          obtain rfl := Option.some.inj H
          have hcz30_0 : wc.cell? ⟨gb281, 0, none⟩ = some (.int .i64 a0_0) := (blk_cell BK281.out 0).trans rfl
          have hcz30_1 : wc.cell? ⟨gb281, 1, none⟩ = some (.string a0_1) := (blk_cell BK281.out 1).trans rfl
          have hcz30_2 : wc.cell? ⟨gb281, 2, none⟩ = some (.string a0_2) := (blk_cell BK281.out 2).trans rfl
          have hcz30_3 : wc.cell? ⟨gb281, 3, none⟩ = some (.int .i64 a0_3) := (blk_cell BK281.out 3).trans rfl
          have hcz30_4 : wc.cell? ⟨gb281, 4, none⟩ = some (.slice A0_4 l0_4.length c0_4) := (blk_cell BK281.out 4).trans rfl
          have hfz30_0 := blk_frozen BK281.out 0
          have hfz30_1 := blk_frozen BK281.out 1
          have hfz30_2 := blk_frozen BK281.out 2
          have hfz30_3 := blk_frozen BK281.out 3
          have hfz30_4 := blk_frozen BK281.out 4
          go_wp2_with (first | ((with_reducible refine gate_callee (f := 30) rfl ?_); refine goesL_ (some 30) rfl rfl Tryz.func30 (by kernel_rfl) rfl #[.string a0_1, .string a0_2] rfl (by (try simp only [List.map_toArray, List.map_cons, List.map_nil]); first | done | rfl | (simp only [List.length_drop, List.length_take]; rfl)) ?_; (with_reducible refine (barrowlaw02_match.calls kj10 a0_1 a0_2 false _ A23.out).mono ?_); rintro e w31 ⟨rfl, hb⟩; refine ⟨_, rfl, ?_⟩; have n0_ := Aside0.mk (blk_below (g := gb281) (o := .cells #[.int .i64 a0_0, .string a0_1, .string a0_2, .int .i64 a0_3, .slice A0_4 l0_4.length c0_4] 35 (0, 0)) (by (with_reducible repeat (first | refine blk_drewN ?_ _ | refine blk_drew ?_ | refine blk_alloc ?_ _)); exact BK281.out) hb); have n1_ := Aside0.mk (below_step (by repeat (first | (with_reducible first | exact HB.out | apply below_alloc | apply pw_below_drewN | apply below_drew1 | refine below_set ?_ GE281.out) | exact HB.out)) hb); clear BK281; clear HB; have BK281 := n0_; have HB := n1_; clear n0_ n1_; (try clear hb); (try clear hb2); (try clear hk); (try clear hi)))
          go_ret
          exact ⟨by first | rfl | (simp [errW_none, errW_some] <;> rfl) | (simp [*, errW_none, errW_some] <;> rfl), by repeat (first | (with_reducible first | exact HB.out | apply below_alloc | apply pw_below_drewN | apply below_drew1 | refine below_set ?_ GE281.out) | exact HB.out)⟩
        ·rw [if_neg c22] at H
         have c22b0 : (a0_0 == 12) = false := beq_eq_false_iff_ne.mpr c22
         have c22b1 : (a0_0 != 12) = true := bne_iff_ne.mpr c22
         by_cases c32 : a0_0 = 7
         ·rw [if_pos c32] at H
          have c32b0 : (a0_0 == 7) = true := beq_iff_eq.mpr c32
          have c32b1 : (a0_0 != 7) = false := bne_eq_false_iff_eq.mpr c32
          clear c32
          replace H := Option.bind_eq_some_iff.mp H
          obtain ⟨t287, A330, H⟩ := H
          replace H : ((barrowref02_Compare.f kj10 a0_1 a0_2).bind fun t288 => (some (t287 == t288))) = some r := H
          have A33 := Aside0.mk A330
          clear A330
          replace H := Option.bind_eq_some_iff.mp H
          obtain ⟨t288, A340, H⟩ := H
          replace H : (some (t287 == t288)) = some r := H
          have A34 := Aside0.mk A340
          clear A340
          obtain rfl := Option.some.inj H
          try go_wp2
          have n0_ := Aside0.mk (blk_drew BK281.out)
          have n1_ := Aside0.mk (below_drew1 HB.out)
          clear BK281
          clear HB
          have BK281 := n0_
          have HB := n1_
          clear n0_ n1_
          refine start_ (n := 12) (S := fun w' => w'.cell? ⟨gb281, 0, none⟩ = some (.int .i64 a0_0) ∧ w'.cell? ⟨gb281, 1, none⟩ = some (.string a0_1) ∧ w'.cell? ⟨gb281, 2, none⟩ = some (.string a0_2) ∧ w'.cell? ⟨gb281, 3, none⟩ = some (.int .i64 a0_3) ∧ w'.cell? ⟨gb281, 4, none⟩ = some (.slice A0_4 l0_4.length c0_4)) (ds := []) #[false, false, false, false, false, false, false, false, false, false, false, false] (by kernel_rfl) rfl rfl ⟨(blk_cell BK281.out 0).trans rfl, (blk_cell BK281.out 1).trans rfl, (blk_cell BK281.out 2).trans rfl, (blk_cell BK281.out 3).trans rfl, (blk_cell BK281.out 4).trans rfl⟩ (fun hHeld => ?_); refine with_tabW barrowlaw02_plays.tab15 barrowlaw02_plays.bits15 (fun HT_ HW_ => ?_)
          generalize wc.drew = w35 at BK281 HB hHeld ⊢
          refine pure_ (i := 0) (N := some 40) (v := ?_) (a' := ?_) #[true, false, false, false, false, false, false, false, false, false, false, false] rfl rfl (any_of HT_.out (by kernel_rfl)) (fun _ _ _ h => h) (Or.inl ⟨by rfl, ?_⟩) ?_ ?_
          rotate_left
          ·intro w'
           go_simp
           with_reducible rfl
          rotate_left
          ·simp only [Act.put, List.setIfInBounds_toArray, List.set_cons_zero, List.set_cons_succ, i64_w, i32_w]
           rfl
          refine pure_ (i := 2) (N := some 42) (v := ?_) (a' := ?_) #[true, false, true, false, false, false, false, false, false, false, false, false] rfl rfl (any_of HT_.out (by kernel_rfl)) (fun _ _ _ h => h) (Or.inl ⟨by rfl, ?_⟩) ?_ ?_
          rotate_left
          ·intro w'
           go_simp
           with_reducible rfl
          rotate_left
          ·simp only [Act.put, List.setIfInBounds_toArray, List.set_cons_zero, List.set_cons_succ, i64_w, i32_w]
           rfl
          refine pure_ (i := 5) (N := some 45) (v := ?_) (a' := ?_) #[true, false, true, false, false, true, false, false, false, false, false, false] rfl rfl (any_of HT_.out (by kernel_rfl)) (fun _ _ _ h => h) (Or.inl ⟨by rfl, ?_⟩) ?_ ?_
          rotate_left
          ·intro w'
           go_simp
           with_reducible rfl
          rotate_left
          ·simp only [Act.put, List.setIfInBounds_toArray, List.set_cons_zero, List.set_cons_succ, i64_w, i32_w]
           rfl
          refine pure_ (i := 7) (N := some 47) (v := ?_) (a' := ?_) #[true, false, true, false, false, true, false, true, false, false, false, false] rfl rfl (any_of HT_.out (by kernel_rfl)) (fun _ _ _ h => h) (Or.inl ⟨by rfl, ?_⟩) ?_ ?_
          rotate_left
          ·intro w'
           go_simp
           with_reducible rfl
          rotate_left
          ·simp only [Act.put, List.setIfInBounds_toArray, List.set_cons_zero, List.set_cons_succ, i64_w, i32_w]
           rfl
          refine take_ (i := 1) (N := some 41) (v := ?_) (a' := ?_) #[true, true, true, false, false, true, false, true, false, false, false, false] rfl rfl (take_ofW HT_.out HW_.out (by kernel_rfl)) (fun _ _ _ h => h) (Or.inl ⟨by rfl, ?_⟩) hHeld ?_ ?_
          rotate_left
          ·rintro w' ⟨s0, s1, s2, s3, s4⟩
           go_simp
           with_reducible rfl
          rotate_left
          ·simp only [Act.put, List.setIfInBounds_toArray, List.set_cons_zero, List.set_cons_succ, i64_w, i32_w]
           rfl
          refine take_ (i := 3) (N := some 43) (v := ?_) (a' := ?_) #[true, true, true, true, false, true, false, true, false, false, false, false] rfl rfl (take_ofW HT_.out HW_.out (by kernel_rfl)) (fun _ _ _ h => h) (Or.inl ⟨by rfl, ?_⟩) hHeld ?_ ?_
          rotate_left
          ·rintro w' ⟨s0, s1, s2, s3, s4⟩
           go_simp
           with_reducible rfl
          rotate_left
          ·simp only [Act.put, List.setIfInBounds_toArray, List.set_cons_zero, List.set_cons_succ, i64_w, i32_w]
           rfl
          refine take_ (i := 6) (N := some 46) (v := ?_) (a' := ?_) #[true, true, true, true, false, true, true, true, false, false, false, false] rfl rfl (take_ofW HT_.out HW_.out (by kernel_rfl)) (fun _ _ _ h => h) (Or.inl ⟨by rfl, ?_⟩) hHeld ?_ ?_
          rotate_left
          ·rintro w' ⟨s0, s1, s2, s3, s4⟩
           go_simp
           with_reducible rfl
          rotate_left
          ·simp only [Act.put, List.setIfInBounds_toArray, List.set_cons_zero, List.set_cons_succ, i64_w, i32_w]
           rfl
          refine take_ (i := 8) (N := some 48) (v := ?_) (a' := ?_) #[true, true, true, true, false, true, true, true, true, false, false, false] rfl rfl (take_ofW HT_.out HW_.out (by kernel_rfl)) (fun _ _ _ h => h) (Or.inl ⟨by rfl, ?_⟩) hHeld ?_ ?_
          rotate_left
          ·rintro w' ⟨s0, s1, s2, s3, s4⟩
           go_simp
           with_reducible rfl
          rotate_left
          ·simp only [Act.put, List.setIfInBounds_toArray, List.set_cons_zero, List.set_cons_succ, i64_w, i32_w]
           rfl
          refine one_ (i := 4) (N := some 44) #[true, true, true, true, true, true, true, true, true, false, false, false] rfl rfl (one_of HT_.out (by kernel_rfl)) (by decide) (fun K hK => ?_)
          refine goes_ Tryz.func14 (by kernel_rfl) rfl #[.string a0_1, .string a0_2] (by rfl) rfl rfl (by (try simp only [List.map_toArray, List.map_cons, List.map_nil]); first | done | rfl | (simp only [List.length_drop, List.length_take]; rfl)) ?_
          with_reducible refine (goods_Compare.calls kj10 a0_1 a0_2 t287 _ A33.out).mono ?_
          rintro e w36 ⟨rfl, hb⟩
          refine ⟨_, rfl, ?_⟩
          have n0_ := Aside0.mk (blk_below (g := gb281) (o := .cells #[.int .i64 a0_0, .string a0_1, .string a0_2, .int .i64 a0_3, .slice A0_4 l0_4.length c0_4] 35 (0, 0)) (by (with_reducible repeat (first | refine blk_drewN ?_ _ | refine blk_drew ?_ | refine blk_alloc ?_ _)); exact BK281.out) hb)
          have n1_ := Aside0.mk (below_step (by repeat (first | (with_reducible first | exact HB.out | apply below_alloc | apply pw_below_drewN | apply below_drew1 | refine below_set ?_ GE281.out) | exact HB.out)) hb)
          clear BK281
          clear HB
          have BK281 := n0_
          have HB := n1_
          clear n0_ n1_
          (try clear hb)
          (try clear hb2)
          (try clear hk)
          (try clear hi)
          refine hK.out _ _ ⟨(blk_cell BK281.out 0).trans rfl, (blk_cell BK281.out 1).trans rfl, (blk_cell BK281.out 2).trans rfl, (blk_cell BK281.out 3).trans rfl, (blk_cell BK281.out 4).trans rfl⟩ (fun hHeld => ?_)
          clear hK K
          refine norm_ (a' := ?_) ?_ ?_
          rotate_left
          ·show Act.put _ (some 44) _ = _
           simp only [Act.put, List.setIfInBounds_toArray, List.set_cons_zero, List.set_cons_succ, i64_w, i32_w]
           rfl
          refine one_ (i := 9) (N := some 49) #[true, true, true, true, true, true, true, true, true, true, false, false] rfl rfl (one_of HT_.out (by kernel_rfl)) (by decide) (fun K hK => ?_)
          refine goes_ Tryz.func31 (by kernel_rfl) rfl #[.string a0_1, .string a0_2] (by rfl) rfl rfl (by (try simp only [List.map_toArray, List.map_cons, List.map_nil]); first | done | rfl | (simp only [List.length_drop, List.length_take]; rfl)) ?_
          with_reducible refine (barrowref02_Compare.calls kj10 a0_1 a0_2 t288 _ A34.out).mono ?_
          rintro e w' ⟨rfl, ⟨nd, rfl⟩⟩
          refine ⟨_, rfl, ?_⟩
          refine hK.out _ _ ⟨(blk_cell BK281.out 0).trans rfl, (blk_cell BK281.out 1).trans rfl, (blk_cell BK281.out 2).trans rfl, (blk_cell BK281.out 3).trans rfl, (blk_cell BK281.out 4).trans rfl⟩ (fun hHeld => ?_)
          clear hK K
          refine norm_ (a' := ?_) ?_ ?_
          rotate_left
          ·show Act.put _ (some 49) _ = _
           simp only [Act.put, List.setIfInBounds_toArray, List.set_cons_zero, List.set_cons_succ, i64_w, i32_w]
           rfl
          refine pure_ (i := 10) (N := some 50) (v := ?_) (a' := ?_) #[true, true, true, true, true, true, true, true, true, true, true, false] rfl rfl (any_of HT_.out (by kernel_rfl)) (fun _ _ _ h => h) (Or.inl ⟨by rfl, ?_⟩) ?_ ?_
          rotate_left
          ·intro w'
           go_simp
           with_reducible rfl
          rotate_left
          ·simp only [Act.put, List.setIfInBounds_toArray, List.set_cons_zero, List.set_cons_succ, i64_w, i32_w]
           rfl
          refine pure_ (i := 11) (N := some 2) (v := ?_) (a' := ?_) #[true, true, true, true, true, true, true, true, true, true, true, true] rfl rfl (any_of HT_.out (by kernel_rfl)) (fun _ _ _ h => h) (Or.inl ⟨by rfl, ?_⟩) ?_ ?_
          rotate_left
          ·intro w'
           go_simp
           with_reducible rfl
          rotate_left
          ·simp only [Act.put, List.setIfInBounds_toArray, List.set_cons_zero, List.set_cons_succ, i64_w, i32_w]
           rfl
          refine done_ (done_of HT_.out (by kernel_rfl)) ?_
          try go_wp2
          go_ret
          exact ⟨by first | rfl | (simp [errW_none, errW_some] <;> rfl) | (simp [*, errW_none, errW_some] <;> rfl), by repeat (first | (with_reducible first | exact HB.out | apply below_alloc | apply pw_below_drewN | apply below_drew1 | refine below_set ?_ GE281.out) | exact HB.out)⟩
         ·rw [if_neg c32] at H
          have c32b0 : (a0_0 == 7) = false := beq_eq_false_iff_ne.mpr c32
          have c32b1 : (a0_0 != 7) = true := bne_iff_ne.mpr c32
          by_cases c37 : a0_0 = 8
          ·rw [if_pos c37] at H
           have c37b0 : (a0_0 == 8) = true := beq_iff_eq.mpr c37
           have c37b1 : (a0_0 != 8) = false := bne_eq_false_iff_eq.mpr c37
           clear c37
           replace H := Option.bind_eq_some_iff.mp H
           obtain ⟨t289, A380, H⟩ := H
           replace H : (some t289) = some r := H
           have A38 := Aside0.mk A380
           clear A380
           obtain rfl := Option.some.inj H
           have hcz39_0 : wc.cell? ⟨gb281, 0, none⟩ = some (.int .i64 a0_0) := (blk_cell BK281.out 0).trans rfl
           have hcz39_1 : wc.cell? ⟨gb281, 1, none⟩ = some (.string a0_1) := (blk_cell BK281.out 1).trans rfl
           have hcz39_2 : wc.cell? ⟨gb281, 2, none⟩ = some (.string a0_2) := (blk_cell BK281.out 2).trans rfl
           have hcz39_3 : wc.cell? ⟨gb281, 3, none⟩ = some (.int .i64 a0_3) := (blk_cell BK281.out 3).trans rfl
           have hcz39_4 : wc.cell? ⟨gb281, 4, none⟩ = some (.slice A0_4 l0_4.length c0_4) := (blk_cell BK281.out 4).trans rfl
           have hfz39_0 := blk_frozen BK281.out 0
           have hfz39_1 := blk_frozen BK281.out 1
           have hfz39_2 := blk_frozen BK281.out 2
           have hfz39_3 := blk_frozen BK281.out 3
           have hfz39_4 := blk_frozen BK281.out 4
           go_wp2_with (first | ((with_reducible refine gate_callee (f := 32) rfl ?_); refine goesL_ (some 56) rfl rfl Tryz.func32 (by kernel_rfl) rfl #[.agg #[.int .i64 a0_0, .string a0_1, .string a0_2, .int .i64 a0_3, .slice A0_4 l0_4.length c0_4]] rfl (by (try simp only [List.map_toArray, List.map_cons, List.map_nil]); first | done | rfl | (simp only [List.length_drop, List.length_take]; rfl)) ?_; (with_reducible refine (barrowlaw02_quantity.calls kj10 a0_0 a0_1 a0_2 a0_3 _ _ l0_4 t289 _ ?tab1_ ?side1 ?side2 A38.out).mono ?_); (case tab1_ => exact tab_keep hTab (by repeat (first | (with_reducible first | exact HB.out | apply below_alloc | apply pw_below_drewN | apply below_drew1) | exact HB.out))); (case side1 => repeat (first | exact (Kd.C_below HR0_4.out HB.out) | (with_reducible refine Kd.C_alloc ?_ _) | (with_reducible refine Kd.C_drewN ?_ _) | (with_reducible refine Kd.C_drew ?_))); (case side2 => exact HC0_4.out); rintro e w40 ⟨rfl, hb⟩; refine ⟨_, rfl, ?_⟩; have n0_ := Aside0.mk (blk_below (g := gb281) (o := .cells #[.int .i64 a0_0, .string a0_1, .string a0_2, .int .i64 a0_3, .slice A0_4 l0_4.length c0_4] 35 (0, 0)) (by (with_reducible repeat (first | refine blk_drewN ?_ _ | refine blk_drew ?_ | refine blk_alloc ?_ _)); exact BK281.out) hb); have n1_ := Aside0.mk (below_step (by repeat (first | (with_reducible first | exact HB.out | apply below_alloc | apply pw_below_drewN | apply below_drew1 | refine below_set ?_ GE281.out) | exact HB.out)) hb); clear BK281; clear HB; have BK281 := n0_; have HB := n1_; clear n0_ n1_; (try clear hb); (try clear hb2); (try clear hk); (try clear hi)))
           go_ret
           exact ⟨by first | rfl | (simp [errW_none, errW_some] <;> rfl) | (simp [*, errW_none, errW_some] <;> rfl), by repeat (first | (with_reducible first | exact HB.out | apply below_alloc | apply pw_below_drewN | apply below_drew1 | refine below_set ?_ GE281.out) | exact HB.out)⟩
          ·rw [if_neg c37] at H
           have c37b0 : (a0_0 == 8) = false := beq_eq_false_iff_ne.mpr c37
           have c37b1 : (a0_0 != 8) = true := bne_iff_ne.mpr c37
           by_cases c41 : a0_0 = 9
           ·rw [if_pos c41] at H
            have c41b0 : (a0_0 == 9) = true := beq_iff_eq.mpr c41
            have c41b1 : (a0_0 != 9) = false := bne_eq_false_iff_eq.mpr c41
            clear c41
            replace H := Option.bind_eq_some_iff.mp H
            obtain ⟨t290, A420, H⟩ := H
            replace H : (some t290) = some r := H
            have A42 := Aside0.mk A420
            clear A420
            obtain rfl := Option.some.inj H
            have hcz43_0 : wc.cell? ⟨gb281, 0, none⟩ = some (.int .i64 a0_0) := (blk_cell BK281.out 0).trans rfl
            have hcz43_1 : wc.cell? ⟨gb281, 1, none⟩ = some (.string a0_1) := (blk_cell BK281.out 1).trans rfl
            have hcz43_2 : wc.cell? ⟨gb281, 2, none⟩ = some (.string a0_2) := (blk_cell BK281.out 2).trans rfl
            have hcz43_3 : wc.cell? ⟨gb281, 3, none⟩ = some (.int .i64 a0_3) := (blk_cell BK281.out 3).trans rfl
            have hcz43_4 : wc.cell? ⟨gb281, 4, none⟩ = some (.slice A0_4 l0_4.length c0_4) := (blk_cell BK281.out 4).trans rfl
            have hfz43_0 := blk_frozen BK281.out 0
            have hfz43_1 := blk_frozen BK281.out 1
            have hfz43_2 := blk_frozen BK281.out 2
            have hfz43_3 := blk_frozen BK281.out 3
            have hfz43_4 := blk_frozen BK281.out 4
            go_wp2_with (first | ((with_reducible refine gate_callee (f := 32) rfl ?_); refine goesL_ (some 56) rfl rfl Tryz.func32 (by kernel_rfl) rfl #[.agg #[.int .i64 a0_0, .string a0_1, .string a0_2, .int .i64 a0_3, .slice A0_4 l0_4.length c0_4]] rfl (by (try simp only [List.map_toArray, List.map_cons, List.map_nil]); first | done | rfl | (simp only [List.length_drop, List.length_take]; rfl)) ?_; (with_reducible refine (barrowlaw02_quantity.calls kj10 a0_0 a0_1 a0_2 a0_3 _ _ l0_4 t290 _ ?tab1_ ?side1 ?side2 A42.out).mono ?_); (case tab1_ => exact tab_keep hTab (by repeat (first | (with_reducible first | exact HB.out | apply below_alloc | apply pw_below_drewN | apply below_drew1) | exact HB.out))); (case side1 => repeat (first | exact (Kd.C_below HR0_4.out HB.out) | (with_reducible refine Kd.C_alloc ?_ _) | (with_reducible refine Kd.C_drewN ?_ _) | (with_reducible refine Kd.C_drew ?_))); (case side2 => exact HC0_4.out); rintro e w44 ⟨rfl, hb⟩; refine ⟨_, rfl, ?_⟩; have n0_ := Aside0.mk (blk_below (g := gb281) (o := .cells #[.int .i64 a0_0, .string a0_1, .string a0_2, .int .i64 a0_3, .slice A0_4 l0_4.length c0_4] 35 (0, 0)) (by (with_reducible repeat (first | refine blk_drewN ?_ _ | refine blk_drew ?_ | refine blk_alloc ?_ _)); exact BK281.out) hb); have n1_ := Aside0.mk (below_step (by repeat (first | (with_reducible first | exact HB.out | apply below_alloc | apply pw_below_drewN | apply below_drew1 | refine below_set ?_ GE281.out) | exact HB.out)) hb); clear BK281; clear HB; have BK281 := n0_; have HB := n1_; clear n0_ n1_; (try clear hb); (try clear hb2); (try clear hk); (try clear hi)))
            go_ret
            exact ⟨by first | rfl | (simp [errW_none, errW_some] <;> rfl) | (simp [*, errW_none, errW_some] <;> rfl), by repeat (first | (with_reducible first | exact HB.out | apply below_alloc | apply pw_below_drewN | apply below_drew1 | refine below_set ?_ GE281.out) | exact HB.out)⟩
           ·rw [if_neg c41] at H
            have c41b0 : (a0_0 == 9) = false := beq_eq_false_iff_ne.mpr c41
            have c41b1 : (a0_0 != 9) = true := bne_iff_ne.mpr c41
            by_cases c45 : a0_0 = 10
            ·rw [if_pos c45] at H
             have c45b0 : (a0_0 == 10) = true := beq_iff_eq.mpr c45
             have c45b1 : (a0_0 != 10) = false := bne_eq_false_iff_eq.mpr c45
             clear c45
             replace H := Option.bind_eq_some_iff.mp H
             obtain ⟨t291, A460, H⟩ := H
             replace H : (some t291) = some r := H
             have A46 := Aside0.mk A460
             clear A460
             obtain rfl := Option.some.inj H
             have hcz47_0 : wc.cell? ⟨gb281, 0, none⟩ = some (.int .i64 a0_0) := (blk_cell BK281.out 0).trans rfl
             have hcz47_1 : wc.cell? ⟨gb281, 1, none⟩ = some (.string a0_1) := (blk_cell BK281.out 1).trans rfl
             have hcz47_2 : wc.cell? ⟨gb281, 2, none⟩ = some (.string a0_2) := (blk_cell BK281.out 2).trans rfl
             have hcz47_3 : wc.cell? ⟨gb281, 3, none⟩ = some (.int .i64 a0_3) := (blk_cell BK281.out 3).trans rfl
             have hcz47_4 : wc.cell? ⟨gb281, 4, none⟩ = some (.slice A0_4 l0_4.length c0_4) := (blk_cell BK281.out 4).trans rfl
             have hfz47_0 := blk_frozen BK281.out 0
             have hfz47_1 := blk_frozen BK281.out 1
             have hfz47_2 := blk_frozen BK281.out 2
             have hfz47_3 := blk_frozen BK281.out 3
             have hfz47_4 := blk_frozen BK281.out 4
             go_wp2_with (first | ((with_reducible refine gate_callee (f := 32) rfl ?_); refine goesL_ (some 56) rfl rfl Tryz.func32 (by kernel_rfl) rfl #[.agg #[.int .i64 a0_0, .string a0_1, .string a0_2, .int .i64 a0_3, .slice A0_4 l0_4.length c0_4]] rfl (by (try simp only [List.map_toArray, List.map_cons, List.map_nil]); first | done | rfl | (simp only [List.length_drop, List.length_take]; rfl)) ?_; (with_reducible refine (barrowlaw02_quantity.calls kj10 a0_0 a0_1 a0_2 a0_3 _ _ l0_4 t291 _ ?tab1_ ?side1 ?side2 A46.out).mono ?_); (case tab1_ => exact tab_keep hTab (by repeat (first | (with_reducible first | exact HB.out | apply below_alloc | apply pw_below_drewN | apply below_drew1) | exact HB.out))); (case side1 => repeat (first | exact (Kd.C_below HR0_4.out HB.out) | (with_reducible refine Kd.C_alloc ?_ _) | (with_reducible refine Kd.C_drewN ?_ _) | (with_reducible refine Kd.C_drew ?_))); (case side2 => exact HC0_4.out); rintro e w48 ⟨rfl, hb⟩; refine ⟨_, rfl, ?_⟩; have n0_ := Aside0.mk (blk_below (g := gb281) (o := .cells #[.int .i64 a0_0, .string a0_1, .string a0_2, .int .i64 a0_3, .slice A0_4 l0_4.length c0_4] 35 (0, 0)) (by (with_reducible repeat (first | refine blk_drewN ?_ _ | refine blk_drew ?_ | refine blk_alloc ?_ _)); exact BK281.out) hb); have n1_ := Aside0.mk (below_step (by repeat (first | (with_reducible first | exact HB.out | apply below_alloc | apply pw_below_drewN | apply below_drew1 | refine below_set ?_ GE281.out) | exact HB.out)) hb); clear BK281; clear HB; have BK281 := n0_; have HB := n1_; clear n0_ n1_; (try clear hb); (try clear hb2); (try clear hk); (try clear hi)))
             go_ret
             exact ⟨by first | rfl | (simp [errW_none, errW_some] <;> rfl) | (simp [*, errW_none, errW_some] <;> rfl), by repeat (first | (with_reducible first | exact HB.out | apply below_alloc | apply pw_below_drewN | apply below_drew1 | refine below_set ?_ GE281.out) | exact HB.out)⟩
            ·rw [if_neg c45] at H
             have c45b0 : (a0_0 == 10) = false := beq_eq_false_iff_ne.mpr c45
             have c45b1 : (a0_0 != 10) = true := bne_iff_ne.mpr c45
             obtain rfl := Option.some.inj H
             go_wp2
             go_ret
             exact ⟨by first | rfl | (simp [errW_none, errW_some] <;> rfl) | (simp [*, errW_none, errW_some] <;> rfl), by repeat (first | (with_reducible first | exact HB.out | apply below_alloc | apply pw_below_drewN | apply below_drew1 | refine below_set ?_ GE281.out) | exact HB.out)⟩

end Go.Proofs.YtmicghhmbojkfaaGreatDoor.G

-- PRINTED by print.py (a twelfth state) out of the translation. Not trusted: Lean checks it.
namespace Go.Proofs.YtmicghhmbojkfaaGreatDoor.G
open Go.RowKit Go.Proofs.YtmicghhmbojkfaaGreatDoorW.PrintWords Go.Proofs.YtmicghhmbojkfaaGreatDoorW.PrintLast Go.Proofs.YtmicghhmbojkfaaGreatDoorW.PrintMore
attribute [local go_sem] max2_int min2_int max_two min_two max_three min_three max_four min_four   -- for this text's walks alone
set_option linter.unusedVariables false
set_option linter.unusedSimpArgs false

/-! ### barrowlaw02_only: function 11 -/
mutual
def barrowlaw02_only.l0 : Nat → List (S35) → List Int → Int → Option (Bool)
 | 0, _, _, _ => none
 | k + 1, x0, x1, x5 => if x5 < (x0.length : Int) then (barrowlaw02_only.l1 k x0 x1 x5 0) else (some true)
def barrowlaw02_only.l1 : Nat → List (S35) → List Int → Int → Int → Option (Bool)
 | 0, _, _, _, _ => none
 | k + 1, x0, x1, x5, x6 => if x6 < (x1.length : Int) then (if 0 ≤ x5 then (if x5 < (x0.length : Int) then (if 0 ≤ x6 then (if ((rd_T35 x0 x5).f0) = (rd x1 x6) then ((barrowlaw02_plays.f k ((rd_T35 x0 x5).f0) ((rd_T35 x0 x5).f1) ((rd_T35 x0 x5).f2) ((rd_T35 x0 x5).f3) ((rd_T35 x0 x5).f4)).bind fun t295 => (if t295 = true then (barrowlaw02_only.l1 k x0 x1 x5 (wrap64 (x6 + 1))) else (some false))) else (barrowlaw02_only.l1 k x0 x1 x5 (wrap64 (x6 + 1)))) else (none)) else (none)) else (none)) else (barrowlaw02_only.l0 k x0 x1 (wrap64 (x5 + 1)))
end
def barrowlaw02_only.f (k : Nat) (l0 : List (S35)) (l1 : List Int) : Option (Bool) := barrowlaw02_only.l0 k l0 l1 0
theorem barrowlaw02_only.mono_l : ∀ k, (∀ y0 y1 y2, LeO (barrowlaw02_only.l0 k y0 y1 y2) (barrowlaw02_only.l0 (k + 1) y0 y1 y2)) ∧ (∀ y0 y1 y2 y3, LeO (barrowlaw02_only.l1 k y0 y1 y2 y3) (barrowlaw02_only.l1 (k + 1) y0 y1 y2 y3))
 | 0 => ⟨fun _ _ _ r h => by simp [barrowlaw02_only.l0] at h, fun _ _ _ _ r h => by simp [barrowlaw02_only.l1] at h⟩
 | k + 1 => by
  obtain ⟨ih0, ih1⟩ := barrowlaw02_only.mono_l k
  refine ⟨?_, ?_⟩
  ·intro y0 y1 y2
   unfold barrowlaw02_only.l0
   repeat' first
   | (with_reducible exact ih0 _ _ _)
   | (with_reducible exact ih1 _ _ _ _)
   | (with_reducible exact barrowlaw02_plays.mono _ _ _ _ _ _)
   | (with_reducible exact LeO.refl _)
   | (with_reducible exact LeO.none _)
   | (with_reducible refine LeO.ite ?_ ?_)
   | (with_reducible refine LeO.bind ?_ (fun _ => ?_))
   | exact ih0 _ _ _
   | exact ih1 _ _ _ _
   | exact barrowlaw02_plays.mono _ _ _ _ _ _
   | exact LeO.none _
   | refine LeO.ite ?_ ?_
   | refine LeO.bind ?_ (fun _ => ?_)
  ·intro y0 y1 y2 y3
   unfold barrowlaw02_only.l1
   repeat' first
   | (with_reducible exact ih0 _ _ _)
   | (with_reducible exact ih1 _ _ _ _)
   | (with_reducible exact barrowlaw02_plays.mono _ _ _ _ _ _)
   | (with_reducible exact LeO.refl _)
   | (with_reducible exact LeO.none _)
   | (with_reducible refine LeO.ite ?_ ?_)
   | (with_reducible refine LeO.bind ?_ (fun _ => ?_))
   | exact ih0 _ _ _
   | exact ih1 _ _ _ _
   | exact barrowlaw02_plays.mono _ _ _ _ _ _
   | exact LeO.none _
   | refine LeO.ite ?_ ?_
   | refine LeO.bind ?_ (fun _ => ?_)
theorem barrowlaw02_only.mono : ∀ a0 a1 k, LeO (barrowlaw02_only.f k a0 a1) (barrowlaw02_only.f (k + 1) a0 a1) := by
 intro a0 a1 k
 obtain ⟨ih0, ih1⟩ := barrowlaw02_only.mono_l k
 unfold barrowlaw02_only.f
 repeat' first
   | (with_reducible exact ih0 _ _ _)
   | (with_reducible exact ih1 _ _ _ _)
   | (with_reducible exact barrowlaw02_plays.mono _ _ _ _ _ _)
   | (with_reducible exact LeO.refl _)
   | (with_reducible exact LeO.none _)
   | (with_reducible refine LeO.ite ?_ ?_)
   | (with_reducible refine LeO.bind ?_ (fun _ => ?_))
   | exact ih0 _ _ _
   | exact ih1 _ _ _ _
   | exact barrowlaw02_plays.mono _ _ _ _ _ _
   | exact LeO.none _
   | refine LeO.ite ?_ ?_
   | refine LeO.bind ?_ (fun _ => ?_)
def barrowlaw02_only.T7 : Bool × List (List Nat × List Nat) := (true, [([], []), ([], []), ([0, 1], [0, 1]), ([2], [2]), ([3], [3]), ([], []), ([], []), ([5, 6], [5, 6]), ([7], [7]), ([4, 8], [4, 8]), ([9], [9]), ([10], [10]), ([10], [10]), ([11, 12, 10], [10, 11, 12]), ([13, 10], [10, 13]), ([14, 10, 10], [10, 14]), ([15, 10], [10, 15]), ([10, 16], [10, 16])])
def barrowlaw02_only.B7 : List Nat := [0, 0, 3, 7, 15, 0, 0, 96, 224, 511, 1023, 2047, 2047, 8191, 16383, 32767, 65535, 131071]
theorem barrowlaw02_only.tab7 : rtab .any (opsOf Tryz.f11 7) = barrowlaw02_only.T7 := by kernel_rfl
theorem barrowlaw02_only.bits7 : waitsOk barrowlaw02_only.T7.2 barrowlaw02_only.B7 = true := by kernel_rfl
set_option maxHeartbeats 8000000 in
set_option maxRecDepth 100000 in
theorem barrowlaw02_only.calls (k : Nat) (A0 : Option Addr) (c0 : Nat) (l0 : List (S35)) (A1 : Option Addr) (c1 : Nat) (l1 : List Int) (r : Bool) (w : World) (hTab : Aside0 (Tab w)) (hr0 : Kd.C k35 w A0 l0.length l0) (hc0 : l0.length ≤ c0) (hr1 : Kd.C (Kd.int .i64) w A1 l1.length l1) (hc1 : l1.length ≤ c1) (h : barrowlaw02_only.f k l0 l1 = some r) :
  Calls Tryz.prog 11 #[.slice A0 l0.length c0, .slice A1 l1.length c1] w fun e w' => e = .returned (.bool r) ∧ Below w.heap.size w w' := by
 have hu35 := Tryz.underlying35
 have HR0 := Aside0.mk hr0
 have HC0 := Aside0.mk hc0
 clear hr0 hc0
 have HR1 := Aside0.mk hr1
 have HC1 := Aside0.mk hc1
 clear hr1 hc1
 have HB := Aside0.mk (Below.refl w.heap.size w)
 have H : (barrowlaw02_only.l0 k l0 l1 0) = some r := h
 clear h
 have H' := Aside0.mk H
 clear H
 go_enter Tryz.func11, Tryz.ntmps11
 go_wp2
 go_loopg [5] k (fun kq v5 w' => ∃ (x5_1 : Int), v5 = .int .i64 x5_1 ∧ Aside0 (barrowlaw02_only.l0 kq l0 l1 x5_1 = some r) ∧ Aside0 (kq ≤ k) ∧ Aside0 (Below w.heap.size w w'))
 case atStart => exact ⟨(0), (by first | rfl | (simp; done) | (simp [*]; done)), H', ⟨Nat.le_refl _⟩, ⟨by repeat (first | (with_reducible first | exact HB.out | apply below_alloc | apply pw_below_drewN | apply below_drew1) | exact HB.out)⟩⟩
 case round =>
  clear H'
  try clear c1
  try clear p2
  obtain ⟨x5_1, rfl, HA, HK1, HB⟩ := hrel
  cases gk with
  | zero => exact absurd HA.out (by simp [barrowlaw02_only.l0])
  | succ k1 =>
   have H := HA.out
   clear HA
   simp only [barrowlaw02_only.l0] at H
   by_cases c3 : x5_1 < (l0.length : Int)
   ·rw [if_pos c3] at H
    have c3b0 : decide (x5_1 < (l0.length : Int)) = true := decide_eq_true c3
    clear c3
    have H' := Aside0.mk H
    clear H
    go_wp2
    go_loopg [6] k1 (fun kq v6 w' => ∃ (x6_2 : Int), v6 = .int .i64 x6_2 ∧ Aside0 (barrowlaw02_only.l1 kq l0 l1 x5_1 x6_2 = some r) ∧ Aside0 (kq ≤ k1) ∧ Aside0 (Below w.heap.size w w'))
    case atStart => exact ⟨(0), (by first | rfl | (simp; done) | (simp [*]; done)), H', ⟨Nat.le_refl _⟩, ⟨by repeat (first | (with_reducible first | exact HB.out | apply below_alloc | apply pw_below_drewN | apply below_drew1) | exact HB.out)⟩⟩
    case round =>
     clear H'
     try clear c1
     try clear p2
     try clear c3
     try clear c3b0
     try clear p2
     obtain ⟨x6_2, rfl, HA, HK2, HB⟩ := hrel
     cases gk with
     | zero => exact absurd HA.out (by simp [barrowlaw02_only.l1])
     | succ k2 =>
      have H := HA.out
      clear HA
      simp only [barrowlaw02_only.l1] at H
      by_cases c4 : x6_2 < (l1.length : Int)
      ·rw [if_pos c4] at H
       have c4b0 : decide (x6_2 < (l1.length : Int)) = true := decide_eq_true c4
       clear c4
       by_cases c5 : 0 ≤ x5_1
       ·rw [if_pos c5] at H
        have c5b0 : decide (0 ≤ x5_1) = true := decide_eq_true c5
        clear c5
        by_cases c6 : x5_1 < (l0.length : Int)
        ·rw [if_pos c6] at H
         have c6b0 : decide (x5_1 < (l0.length : Int)) = true := decide_eq_true c6
         clear c6
         by_cases c7 : 0 ≤ x6_2
         ·rw [if_pos c7] at H
          have c7b0 : decide (0 ≤ x6_2) = true := decide_eq_true c7
          clear c7
          by_cases c8 : ((rd_T35 l0 x5_1).f0) = (rd l1 x6_2)
          ·rw [if_pos c8] at H
           have c8b0 : (((rd_T35 l0 x5_1).f0) == (rd l1 x6_2)) = true := beq_iff_eq.mpr c8
           have c8b1 : (((rd_T35 l0 x5_1).f0) != (rd l1 x6_2)) = false := bne_eq_false_iff_eq.mpr c8
           clear c8
           replace H := Option.bind_eq_some_iff.mp H
           obtain ⟨t295, A90, H⟩ := H
           replace H : (if t295 = true then (barrowlaw02_only.l1 k2 l0 l1 x5_1 (wrap64 (x6_2 + 1))) else (some false)) = some r := H
           have A9 := Aside0.mk A90
           clear A90
           by_cases c10 : t295 = true
           ·subst c10
            have H1 : (barrowlaw02_only.l1 k2 l0 l1 x5_1 (wrap64 (x6_2 + 1))) = some r := by rw [if_pos rfl] at H; exact H
            clear H
            have H := H1
            clear H1
            have H' := Aside0.mk H
            clear H
            try go_wp2
            have n0_ := Aside0.mk (below_drew1 HB.out)
            clear HB
            have HB := n0_
            clear n0_
            have p292 : 0 ≤ (x5_1 : Int) := of_decide_eq_true (by first | (with_reducible assumption) | assumption)
            have q292 : x5_1 < (l0.length : Int) := of_decide_eq_true (by first | (with_reducible assumption) | assumption)
            obtain ⟨ad292, A292_4, c292_4, e292, hx292_0, hx292_1, hx292_2, hx292_3, hx292_4, hl292_4, hi292_4⟩ := at_T35 HR0.out x5_1 p292 q292
            have hw292_4 := hx292_4
            have hw292_3 := hx292_3
            have hw292_2 := hx292_2
            have hw292_1 := hx292_1
            have hw292_0 := hx292_0
            cases e292
            replace hx292_0 := (HB.out.cell (World.block_lt_of_cell? w _ hx292_0)).trans hx292_0
            replace hx292_1 := (HB.out.cell (World.block_lt_of_cell? w _ hx292_1)).trans hx292_1
            replace hx292_2 := (HB.out.cell (World.block_lt_of_cell? w _ hx292_2)).trans hx292_2
            replace hx292_3 := (HB.out.cell (World.block_lt_of_cell? w _ hx292_3)).trans hx292_3
            replace hx292_4 := (HB.out.cell (World.block_lt_of_cell? w _ hx292_4)).trans hx292_4
            have HR292_4 := Aside0.mk hi292_4
            have HC292_4 := Aside0.mk hl292_4
            clear hi292_4 hl292_4
            replace p292 := eq_true p292
            replace q292 := eq_true q292
            have p293 : 0 ≤ (x6_2 : Int) := of_decide_eq_true (by first | (with_reducible assumption) | assumption)
            have q293 : x6_2 < (l1.length : Int) := of_decide_eq_true (by first | (with_reducible assumption) | assumption)
            obtain ⟨ad293, e293, hx293_0⟩ := Kd.at_int HR1.out x6_2 p293 q293
            have hw293_0 := hx293_0
            cases e293
            replace hx293_0 := (HB.out.cell (World.block_lt_of_cell? w _ hx293_0)).trans hx293_0
            replace p293 := eq_true p293
            replace q293 := eq_true q293
            have p294 : 0 ≤ (x5_1 : Int) := of_decide_eq_true (by first | (with_reducible assumption) | assumption)
            have q294 : x5_1 < (l0.length : Int) := of_decide_eq_true (by first | (with_reducible assumption) | assumption)
            obtain ⟨ad294, A294_4, c294_4, e294, hx294_0, hx294_1, hx294_2, hx294_3, hx294_4, hl294_4, hi294_4⟩ := at_T35 HR0.out x5_1 p294 q294
            have hw294_4 := hx294_4
            have hw294_3 := hx294_3
            have hw294_2 := hx294_2
            have hw294_1 := hx294_1
            have hw294_0 := hx294_0
            obtain rfl : ad292 = ad294 := (by injection e294)
            replace hx294_0 := (HB.out.cell (World.block_lt_of_cell? w _ hx294_0)).trans hx294_0
            replace hx294_1 := (HB.out.cell (World.block_lt_of_cell? w _ hx294_1)).trans hx294_1
            replace hx294_2 := (HB.out.cell (World.block_lt_of_cell? w _ hx294_2)).trans hx294_2
            replace hx294_3 := (HB.out.cell (World.block_lt_of_cell? w _ hx294_3)).trans hx294_3
            replace hx294_4 := (HB.out.cell (World.block_lt_of_cell? w _ hx294_4)).trans hx294_4
            have HR294_4 := Aside0.mk hi294_4
            have HC294_4 := Aside0.mk hl294_4
            clear hi294_4 hl294_4
            replace p294 := eq_true p294
            replace q294 := eq_true q294
            have ea_ := Option.some.inj (hx292_4.symm.trans hx294_4)
            injection ea_ with ea_ en_ ec_
            subst ea_
            subst ec_
            clear en_
            refine start_ (n := 18) (S := fun w' => w'.cell? (ad292.add ((x5_1).toNat * 5)) = some (.int .i64 ((rd_T35 l0 x5_1).f0)) ∧ w'.cell? ⟨(ad292.add ((x5_1).toNat * 5)).block, (ad292.add ((x5_1).toNat * 5)).off + 1, none⟩ = some (.string ((rd_T35 l0 x5_1).f1)) ∧ w'.cell? ⟨(ad292.add ((x5_1).toNat * 5)).block, (ad292.add ((x5_1).toNat * 5)).off + 2, none⟩ = some (.string ((rd_T35 l0 x5_1).f2)) ∧ w'.cell? ⟨(ad292.add ((x5_1).toNat * 5)).block, (ad292.add ((x5_1).toNat * 5)).off + 3, none⟩ = some (.int .i64 ((rd_T35 l0 x5_1).f3)) ∧ w'.cell? ⟨(ad292.add ((x5_1).toNat * 5)).block, (ad292.add ((x5_1).toNat * 5)).off + 4, none⟩ = some (.slice A292_4 ((rd_T35 l0 x5_1).f4).length c292_4) ∧ w'.cell? (ad293.add (x6_2).toNat) = some (.int .i64 (rd l1 x6_2)) ∧ w'.cell? (ad292.add ((x5_1).toNat * 5)) = some (.int .i64 ((rd_T35 l0 x5_1).f0)) ∧ w'.cell? ⟨(ad292.add ((x5_1).toNat * 5)).block, (ad292.add ((x5_1).toNat * 5)).off + 1, none⟩ = some (.string ((rd_T35 l0 x5_1).f1)) ∧ w'.cell? ⟨(ad292.add ((x5_1).toNat * 5)).block, (ad292.add ((x5_1).toNat * 5)).off + 2, none⟩ = some (.string ((rd_T35 l0 x5_1).f2)) ∧ w'.cell? ⟨(ad292.add ((x5_1).toNat * 5)).block, (ad292.add ((x5_1).toNat * 5)).off + 3, none⟩ = some (.int .i64 ((rd_T35 l0 x5_1).f3)) ∧ w'.cell? ⟨(ad292.add ((x5_1).toNat * 5)).block, (ad292.add ((x5_1).toNat * 5)).off + 4, none⟩ = some (.slice A292_4 ((rd_T35 l0 x5_1).f4).length c292_4)) (ds := []) #[false, false, false, false, false, false, false, false, false, false, false, false, false, false, false, false, false, false] (by kernel_rfl) rfl rfl ⟨((HB.out.cell (World.block_lt_of_cell? w _ hw292_0)).trans hw292_0), ((HB.out.cell (World.block_lt_of_cell? w _ hw292_1)).trans hw292_1), ((HB.out.cell (World.block_lt_of_cell? w _ hw292_2)).trans hw292_2), ((HB.out.cell (World.block_lt_of_cell? w _ hw292_3)).trans hw292_3), ((HB.out.cell (World.block_lt_of_cell? w _ hw292_4)).trans hw292_4), ((HB.out.cell (World.block_lt_of_cell? w _ hw293_0)).trans hw293_0), ((HB.out.cell (World.block_lt_of_cell? w _ hw294_0)).trans hw294_0), ((HB.out.cell (World.block_lt_of_cell? w _ hw294_1)).trans hw294_1), ((HB.out.cell (World.block_lt_of_cell? w _ hw294_2)).trans hw294_2), ((HB.out.cell (World.block_lt_of_cell? w _ hw294_3)).trans hw294_3), ((HB.out.cell (World.block_lt_of_cell? w _ hw294_4)).trans hw294_4)⟩ (fun hHeld => ?_); refine with_tabW barrowlaw02_only.tab7 barrowlaw02_only.bits7 (fun HT_ HW_ => ?_)
            generalize wr.drew = w11 at HB HR292_4 HR294_4 hx292_0 hx292_1 hx292_2 hx292_3 hx292_4 hx293_0 hx294_0 hx294_1 hx294_2 hx294_3 hx294_4 hHeld ⊢
            refine pure_ (i := 0) (N := some 19) (v := ?_) (a' := ?_) #[true, false, false, false, false, false, false, false, false, false, false, false, false, false, false, false, false, false] rfl rfl (any_of HT_.out (by kernel_rfl)) (fun _ _ _ h => h) (Or.inl ⟨by rfl, ?_⟩) ?_ ?_
            rotate_left
            ·intro w'
             go_simp
             with_reducible rfl
            rotate_left
            ·simp only [Act.put, List.setIfInBounds_toArray, List.set_cons_zero, List.set_cons_succ, i64_w, i32_w]
             rfl
            refine pure_ (i := 1) (N := some 20) (v := ?_) (a' := ?_) #[true, true, false, false, false, false, false, false, false, false, false, false, false, false, false, false, false, false] rfl rfl (any_of HT_.out (by kernel_rfl)) (fun _ _ _ h => h) (Or.inl ⟨by rfl, ?_⟩) ?_ ?_
            rotate_left
            ·intro w'
             go_simp
             with_reducible rfl
            rotate_left
            ·simp only [Act.put, List.setIfInBounds_toArray, List.set_cons_zero, List.set_cons_succ, i64_w, i32_w]
             rfl
            refine pure_ (i := 2) (N := some 21) (v := ?_) (a' := ?_) #[true, true, true, false, false, false, false, false, false, false, false, false, false, false, false, false, false, false] rfl rfl (any_of HT_.out (by kernel_rfl)) (fun _ _ _ h => h) (Or.inl ⟨by rfl, ?_⟩) ?_ ?_
            rotate_left
            ·intro w'
             go_simp
             with_reducible rfl
            rotate_left
            ·simp only [Act.put, List.setIfInBounds_toArray, List.set_cons_zero, List.set_cons_succ, i64_w, i32_w]
             rfl
            refine pure_ (i := 3) (N := some 22) (v := ?_) (a' := ?_) #[true, true, true, true, false, false, false, false, false, false, false, false, false, false, false, false, false, false] rfl rfl (any_of HT_.out (by kernel_rfl)) (fun _ _ _ h => h) (Or.inl ⟨by rfl, ?_⟩) ?_ ?_
            rotate_left
            ·intro w'
             go_simp
             with_reducible rfl
            rotate_left
            ·simp only [Act.put, List.setIfInBounds_toArray, List.set_cons_zero, List.set_cons_succ, i64_w, i32_w]
             rfl
            refine pure_ (i := 5) (N := some 24) (v := ?_) (a' := ?_) #[true, true, true, true, false, true, false, false, false, false, false, false, false, false, false, false, false, false] rfl rfl (any_of HT_.out (by kernel_rfl)) (fun _ _ _ h => h) (Or.inl ⟨by rfl, ?_⟩) ?_ ?_
            rotate_left
            ·intro w'
             go_simp
             with_reducible rfl
            rotate_left
            ·simp only [Act.put, List.setIfInBounds_toArray, List.set_cons_zero, List.set_cons_succ, i64_w, i32_w]
             rfl
            refine pure_ (i := 6) (N := some 25) (v := ?_) (a' := ?_) #[true, true, true, true, false, true, true, false, false, false, false, false, false, false, false, false, false, false] rfl rfl (any_of HT_.out (by kernel_rfl)) (fun _ _ _ h => h) (Or.inl ⟨by rfl, ?_⟩) ?_ ?_
            rotate_left
            ·intro w'
             go_simp
             with_reducible rfl
            rotate_left
            ·simp only [Act.put, List.setIfInBounds_toArray, List.set_cons_zero, List.set_cons_succ, i64_w, i32_w]
             rfl
            refine pure_ (i := 7) (N := some 26) (v := ?_) (a' := ?_) #[true, true, true, true, false, true, true, true, false, false, false, false, false, false, false, false, false, false] rfl rfl (any_of HT_.out (by kernel_rfl)) (fun _ _ _ h => h) (Or.inl ⟨by rfl, ?_⟩) ?_ ?_
            rotate_left
            ·intro w'
             go_simp
             with_reducible rfl
            rotate_left
            ·simp only [Act.put, List.setIfInBounds_toArray, List.set_cons_zero, List.set_cons_succ, i64_w, i32_w]
             rfl
            refine take_ (i := 4) (N := some 23) (v := ?_) (a' := ?_) #[true, true, true, true, true, true, true, true, false, false, false, false, false, false, false, false, false, false] rfl rfl (take_ofW HT_.out HW_.out (by kernel_rfl)) (fun _ _ _ h => h) (Or.inl ⟨by rfl, ?_⟩) hHeld ?_ ?_
            rotate_left
            ·rintro w' ⟨s0, s1, s2, s3, s4, s5, s6, s7, s8, s9, s10⟩
             go_simp
             with_reducible rfl
            rotate_left
            ·simp only [Act.put, List.setIfInBounds_toArray, List.set_cons_zero, List.set_cons_succ, i64_w, i32_w]
             rfl
            refine take_ (i := 8) (N := some 27) (v := ?_) (a' := ?_) #[true, true, true, true, true, true, true, true, true, false, false, false, false, false, false, false, false, false] rfl rfl (take_ofW HT_.out HW_.out (by kernel_rfl)) (fun _ _ _ h => h) (Or.inl ⟨by rfl, ?_⟩) hHeld ?_ ?_
            rotate_left
            ·rintro w' ⟨s0, s1, s2, s3, s4, s5, s6, s7, s8, s9, s10⟩
             go_simp
             with_reducible rfl
            rotate_left
            ·simp only [Act.put, List.setIfInBounds_toArray, List.set_cons_zero, List.set_cons_succ, i64_w, i32_w]
             rfl
            refine pure_ (i := 9) (N := some 28) (v := ?_) (a' := ?_) #[true, true, true, true, true, true, true, true, true, true, false, false, false, false, false, false, false, false] rfl rfl (any_of HT_.out (by kernel_rfl)) (fun _ _ _ h => h) (Or.inl ⟨by rfl, ?_⟩) ?_ ?_
            rotate_left
            ·intro w'
             go_simp
             with_reducible rfl
            rotate_left
            ·simp only [Act.put, List.setIfInBounds_toArray, List.set_cons_zero, List.set_cons_succ, i64_w, i32_w]
             rfl
            refine pure_ (i := 10) (N := some 29) (v := ?_) (a' := ?_) #[true, true, true, true, true, true, true, true, true, true, true, false, false, false, false, false, false, false] rfl rfl (any_of HT_.out (by kernel_rfl)) (fun _ _ _ h => h) (Or.inl ⟨by rfl, ?_⟩) ?_ ?_
            rotate_left
            ·intro w'
             go_simp
             with_reducible rfl
            rotate_left
            ·simp only [Act.put, List.setIfInBounds_toArray, List.set_cons_zero, List.set_cons_succ, i64_w, i32_w]
             rfl
            refine pure_ (i := 11) (N := some 30) (v := ?_) (a' := ?_) #[true, true, true, true, true, true, true, true, true, true, true, true, false, false, false, false, false, false] rfl rfl (any_of HT_.out (by kernel_rfl)) (fun _ _ _ h => h) (Or.inl ⟨by rfl, ?_⟩) ?_ ?_
            rotate_left
            ·intro w'
             go_simp
             with_reducible rfl
            rotate_left
            ·simp only [Act.put, List.setIfInBounds_toArray, List.set_cons_zero, List.set_cons_succ, i64_w, i32_w]
             rfl
            refine pure_ (i := 12) (N := some 31) (v := ?_) (a' := ?_) #[true, true, true, true, true, true, true, true, true, true, true, true, true, false, false, false, false, false] rfl rfl (any_of HT_.out (by kernel_rfl)) (fun _ _ _ h => h) (Or.inl ⟨by rfl, ?_⟩) ?_ ?_
            rotate_left
            ·intro w'
             go_simp
             with_reducible rfl
            rotate_left
            ·simp only [Act.put, List.setIfInBounds_toArray, List.set_cons_zero, List.set_cons_succ, i64_w, i32_w]
             rfl
            refine pure_ (i := 13) (N := some 32) (v := ?_) (a' := ?_) #[true, true, true, true, true, true, true, true, true, true, true, true, true, true, false, false, false, false] rfl rfl (any_of HT_.out (by kernel_rfl)) (fun _ _ _ h => h) (Or.inl ⟨by rfl, ?_⟩) ?_ ?_
            rotate_left
            ·intro w'
             go_simp
             with_reducible rfl
            rotate_left
            ·simp only [Act.put, List.setIfInBounds_toArray, List.set_cons_zero, List.set_cons_succ, i64_w, i32_w]
             rfl
            refine take_ (i := 14) (N := some 33) (v := ?_) (a' := ?_) #[true, true, true, true, true, true, true, true, true, true, true, true, true, true, true, false, false, false] rfl rfl (take_ofW HT_.out HW_.out (by kernel_rfl)) (fun _ _ _ h => h) (Or.inl ⟨by rfl, ?_⟩) hHeld ?_ ?_
            rotate_left
            ·rintro w' ⟨s0, s1, s2, s3, s4, s5, s6, s7, s8, s9, s10⟩
             go_simp
             with_reducible rfl
            rotate_left
            ·simp only [Act.put, List.setIfInBounds_toArray, List.set_cons_zero, List.set_cons_succ, i64_w, i32_w]
             rfl
            refine one_ (i := 15) (N := some 34) #[true, true, true, true, true, true, true, true, true, true, true, true, true, true, true, true, false, false] rfl rfl (one_of HT_.out (by kernel_rfl)) (by decide) (fun K hK => ?_)
            refine goes_ Tryz.func16 (by kernel_rfl) rfl #[.agg #[.int .i64 ((rd_T35 l0 x5_1).f0), .string ((rd_T35 l0 x5_1).f1), .string ((rd_T35 l0 x5_1).f2), .int .i64 ((rd_T35 l0 x5_1).f3), .slice A292_4 ((rd_T35 l0 x5_1).f4).length c292_4]] (by rfl) rfl rfl (by (try simp only [List.map_toArray, List.map_cons, List.map_nil]); first | done | rfl | (simp only [List.length_drop, List.length_take]; rfl)) ?_
            with_reducible refine (barrowlaw02_plays.calls k2 ((rd_T35 l0 x5_1).f0) ((rd_T35 l0 x5_1).f1) ((rd_T35 l0 x5_1).f2) ((rd_T35 l0 x5_1).f3) _ _ ((rd_T35 l0 x5_1).f4) true _ ?tab1_ ?side1 ?side2 A9.out).mono ?_; (case tab1_ => exact tab_keep hTab (by repeat (first | (with_reducible first | exact HB.out | apply below_alloc | apply pw_below_drewN | apply below_drew1) | exact HB.out)))
            (case side1 => repeat (first | exact (Kd.C_below HR294_4.out HB.out) | (with_reducible refine Kd.C_alloc ?_ _) | (with_reducible refine Kd.C_drewN ?_ _) | (with_reducible refine Kd.C_drew ?_)))
            (case side2 => exact HC294_4.out)
            rintro e w12 ⟨rfl, hb⟩
            refine ⟨_, rfl, ?_⟩
            have n0_ := Aside0.mk (below_step (by repeat (first | (with_reducible first | exact HB.out | apply below_alloc | apply pw_below_drewN | apply below_drew1) | exact HB.out)) hb)
            clear HB
            have HB := n0_
            clear n0_
            (try clear hb)
            (try clear hb2)
            (try clear hk)
            (try clear hi)
            refine hK.out _ _ ⟨((HB.out.cell (World.block_lt_of_cell? w _ hw292_0)).trans hw292_0), ((HB.out.cell (World.block_lt_of_cell? w _ hw292_1)).trans hw292_1), ((HB.out.cell (World.block_lt_of_cell? w _ hw292_2)).trans hw292_2), ((HB.out.cell (World.block_lt_of_cell? w _ hw292_3)).trans hw292_3), ((HB.out.cell (World.block_lt_of_cell? w _ hw292_4)).trans hw292_4), ((HB.out.cell (World.block_lt_of_cell? w _ hw293_0)).trans hw293_0), ((HB.out.cell (World.block_lt_of_cell? w _ hw294_0)).trans hw294_0), ((HB.out.cell (World.block_lt_of_cell? w _ hw294_1)).trans hw294_1), ((HB.out.cell (World.block_lt_of_cell? w _ hw294_2)).trans hw294_2), ((HB.out.cell (World.block_lt_of_cell? w _ hw294_3)).trans hw294_3), ((HB.out.cell (World.block_lt_of_cell? w _ hw294_4)).trans hw294_4)⟩ (fun hHeld => ?_)
            clear hK K
            refine norm_ (a' := ?_) ?_ ?_
            rotate_left
            ·show Act.put _ (some 34) _ = _
             simp only [Act.put, List.setIfInBounds_toArray, List.set_cons_zero, List.set_cons_succ, i64_w, i32_w]
             rfl
            refine pure_ (i := 16) (N := some 35) (v := ?_) (a' := ?_) #[true, true, true, true, true, true, true, true, true, true, true, true, true, true, true, true, true, false] rfl rfl (any_of HT_.out (by kernel_rfl)) (fun _ _ _ h => h) (Or.inl ⟨by rfl, ?_⟩) ?_ ?_
            rotate_left
            ·intro w'
             go_simp
             with_reducible rfl
            rotate_left
            ·simp only [Act.put, List.setIfInBounds_toArray, List.set_cons_zero, List.set_cons_succ, i64_w, i32_w]
             rfl
            refine pure_ (i := 17) (N := some 36) (v := ?_) (a' := ?_) #[true, true, true, true, true, true, true, true, true, true, true, true, true, true, true, true, true, true] rfl rfl (any_of HT_.out (by kernel_rfl)) (fun _ _ _ h => h) (Or.inl ⟨by rfl, ?_⟩) ?_ ?_
            rotate_left
            ·intro w'
             go_simp
             with_reducible rfl
            rotate_left
            ·simp only [Act.put, List.setIfInBounds_toArray, List.set_cons_zero, List.set_cons_succ, i64_w, i32_w]
             rfl
            refine done_ (done_of HT_.out (by kernel_rfl)) ?_
            try go_wp2
            go_roundg k2
            case measure => have := HK1.out; have := HK2.out; omega
            case rel => exact ⟨(wrap64 (x6_2 + 1)), (by first | rfl | (simp; done) | (simp [*]; done)), H', ⟨by have := HK1.out; have := HK2.out; omega⟩, ⟨by repeat (first | (with_reducible first | exact HB.out | apply below_alloc | apply pw_below_drewN | apply below_drew1) | exact HB.out)⟩⟩
           ·replace c10 := Bool.eq_false_iff.mpr c10
            subst c10
            have H1 : (some false) = some r := by rw [if_neg (show ¬ (false = true) by decide)] at H; exact H
            clear H
            have H := H1
            clear H1
            obtain rfl := Option.some.inj H
            try go_wp2
            have n0_ := Aside0.mk (below_drew1 HB.out)
            clear HB
            have HB := n0_
            clear n0_
            have p292 : 0 ≤ (x5_1 : Int) := of_decide_eq_true (by first | (with_reducible assumption) | assumption)
            have q292 : x5_1 < (l0.length : Int) := of_decide_eq_true (by first | (with_reducible assumption) | assumption)
            obtain ⟨ad292, A292_4, c292_4, e292, hx292_0, hx292_1, hx292_2, hx292_3, hx292_4, hl292_4, hi292_4⟩ := at_T35 HR0.out x5_1 p292 q292
            have hw292_4 := hx292_4
            have hw292_3 := hx292_3
            have hw292_2 := hx292_2
            have hw292_1 := hx292_1
            have hw292_0 := hx292_0
            cases e292
            replace hx292_0 := (HB.out.cell (World.block_lt_of_cell? w _ hx292_0)).trans hx292_0
            replace hx292_1 := (HB.out.cell (World.block_lt_of_cell? w _ hx292_1)).trans hx292_1
            replace hx292_2 := (HB.out.cell (World.block_lt_of_cell? w _ hx292_2)).trans hx292_2
            replace hx292_3 := (HB.out.cell (World.block_lt_of_cell? w _ hx292_3)).trans hx292_3
            replace hx292_4 := (HB.out.cell (World.block_lt_of_cell? w _ hx292_4)).trans hx292_4
            have HR292_4 := Aside0.mk hi292_4
            have HC292_4 := Aside0.mk hl292_4
            clear hi292_4 hl292_4
            replace p292 := eq_true p292
            replace q292 := eq_true q292
            have p293 : 0 ≤ (x6_2 : Int) := of_decide_eq_true (by first | (with_reducible assumption) | assumption)
            have q293 : x6_2 < (l1.length : Int) := of_decide_eq_true (by first | (with_reducible assumption) | assumption)
            obtain ⟨ad293, e293, hx293_0⟩ := Kd.at_int HR1.out x6_2 p293 q293
            have hw293_0 := hx293_0
            cases e293
            replace hx293_0 := (HB.out.cell (World.block_lt_of_cell? w _ hx293_0)).trans hx293_0
            replace p293 := eq_true p293
            replace q293 := eq_true q293
            have p294 : 0 ≤ (x5_1 : Int) := of_decide_eq_true (by first | (with_reducible assumption) | assumption)
            have q294 : x5_1 < (l0.length : Int) := of_decide_eq_true (by first | (with_reducible assumption) | assumption)
            obtain ⟨ad294, A294_4, c294_4, e294, hx294_0, hx294_1, hx294_2, hx294_3, hx294_4, hl294_4, hi294_4⟩ := at_T35 HR0.out x5_1 p294 q294
            have hw294_4 := hx294_4
            have hw294_3 := hx294_3
            have hw294_2 := hx294_2
            have hw294_1 := hx294_1
            have hw294_0 := hx294_0
            obtain rfl : ad292 = ad294 := (by injection e294)
            replace hx294_0 := (HB.out.cell (World.block_lt_of_cell? w _ hx294_0)).trans hx294_0
            replace hx294_1 := (HB.out.cell (World.block_lt_of_cell? w _ hx294_1)).trans hx294_1
            replace hx294_2 := (HB.out.cell (World.block_lt_of_cell? w _ hx294_2)).trans hx294_2
            replace hx294_3 := (HB.out.cell (World.block_lt_of_cell? w _ hx294_3)).trans hx294_3
            replace hx294_4 := (HB.out.cell (World.block_lt_of_cell? w _ hx294_4)).trans hx294_4
            have HR294_4 := Aside0.mk hi294_4
            have HC294_4 := Aside0.mk hl294_4
            clear hi294_4 hl294_4
            replace p294 := eq_true p294
            replace q294 := eq_true q294
            have ea_ := Option.some.inj (hx292_4.symm.trans hx294_4)
            injection ea_ with ea_ en_ ec_
            subst ea_
            subst ec_
            clear en_
            refine start_ (n := 18) (S := fun w' => w'.cell? (ad292.add ((x5_1).toNat * 5)) = some (.int .i64 ((rd_T35 l0 x5_1).f0)) ∧ w'.cell? ⟨(ad292.add ((x5_1).toNat * 5)).block, (ad292.add ((x5_1).toNat * 5)).off + 1, none⟩ = some (.string ((rd_T35 l0 x5_1).f1)) ∧ w'.cell? ⟨(ad292.add ((x5_1).toNat * 5)).block, (ad292.add ((x5_1).toNat * 5)).off + 2, none⟩ = some (.string ((rd_T35 l0 x5_1).f2)) ∧ w'.cell? ⟨(ad292.add ((x5_1).toNat * 5)).block, (ad292.add ((x5_1).toNat * 5)).off + 3, none⟩ = some (.int .i64 ((rd_T35 l0 x5_1).f3)) ∧ w'.cell? ⟨(ad292.add ((x5_1).toNat * 5)).block, (ad292.add ((x5_1).toNat * 5)).off + 4, none⟩ = some (.slice A292_4 ((rd_T35 l0 x5_1).f4).length c292_4) ∧ w'.cell? (ad293.add (x6_2).toNat) = some (.int .i64 (rd l1 x6_2)) ∧ w'.cell? (ad292.add ((x5_1).toNat * 5)) = some (.int .i64 ((rd_T35 l0 x5_1).f0)) ∧ w'.cell? ⟨(ad292.add ((x5_1).toNat * 5)).block, (ad292.add ((x5_1).toNat * 5)).off + 1, none⟩ = some (.string ((rd_T35 l0 x5_1).f1)) ∧ w'.cell? ⟨(ad292.add ((x5_1).toNat * 5)).block, (ad292.add ((x5_1).toNat * 5)).off + 2, none⟩ = some (.string ((rd_T35 l0 x5_1).f2)) ∧ w'.cell? ⟨(ad292.add ((x5_1).toNat * 5)).block, (ad292.add ((x5_1).toNat * 5)).off + 3, none⟩ = some (.int .i64 ((rd_T35 l0 x5_1).f3)) ∧ w'.cell? ⟨(ad292.add ((x5_1).toNat * 5)).block, (ad292.add ((x5_1).toNat * 5)).off + 4, none⟩ = some (.slice A292_4 ((rd_T35 l0 x5_1).f4).length c292_4)) (ds := []) #[false, false, false, false, false, false, false, false, false, false, false, false, false, false, false, false, false, false] (by kernel_rfl) rfl rfl ⟨((HB.out.cell (World.block_lt_of_cell? w _ hw292_0)).trans hw292_0), ((HB.out.cell (World.block_lt_of_cell? w _ hw292_1)).trans hw292_1), ((HB.out.cell (World.block_lt_of_cell? w _ hw292_2)).trans hw292_2), ((HB.out.cell (World.block_lt_of_cell? w _ hw292_3)).trans hw292_3), ((HB.out.cell (World.block_lt_of_cell? w _ hw292_4)).trans hw292_4), ((HB.out.cell (World.block_lt_of_cell? w _ hw293_0)).trans hw293_0), ((HB.out.cell (World.block_lt_of_cell? w _ hw294_0)).trans hw294_0), ((HB.out.cell (World.block_lt_of_cell? w _ hw294_1)).trans hw294_1), ((HB.out.cell (World.block_lt_of_cell? w _ hw294_2)).trans hw294_2), ((HB.out.cell (World.block_lt_of_cell? w _ hw294_3)).trans hw294_3), ((HB.out.cell (World.block_lt_of_cell? w _ hw294_4)).trans hw294_4)⟩ (fun hHeld => ?_); refine with_tabW barrowlaw02_only.tab7 barrowlaw02_only.bits7 (fun HT_ HW_ => ?_)
            generalize wr.drew = w13 at HB HR292_4 HR294_4 hx292_0 hx292_1 hx292_2 hx292_3 hx292_4 hx293_0 hx294_0 hx294_1 hx294_2 hx294_3 hx294_4 hHeld ⊢
            refine pure_ (i := 0) (N := some 19) (v := ?_) (a' := ?_) #[true, false, false, false, false, false, false, false, false, false, false, false, false, false, false, false, false, false] rfl rfl (any_of HT_.out (by kernel_rfl)) (fun _ _ _ h => h) (Or.inl ⟨by rfl, ?_⟩) ?_ ?_
            rotate_left
            ·intro w'
             go_simp
             with_reducible rfl
            rotate_left
            ·simp only [Act.put, List.setIfInBounds_toArray, List.set_cons_zero, List.set_cons_succ, i64_w, i32_w]
             rfl
            refine pure_ (i := 1) (N := some 20) (v := ?_) (a' := ?_) #[true, true, false, false, false, false, false, false, false, false, false, false, false, false, false, false, false, false] rfl rfl (any_of HT_.out (by kernel_rfl)) (fun _ _ _ h => h) (Or.inl ⟨by rfl, ?_⟩) ?_ ?_
            rotate_left
            ·intro w'
             go_simp
             with_reducible rfl
            rotate_left
            ·simp only [Act.put, List.setIfInBounds_toArray, List.set_cons_zero, List.set_cons_succ, i64_w, i32_w]
             rfl
            refine pure_ (i := 2) (N := some 21) (v := ?_) (a' := ?_) #[true, true, true, false, false, false, false, false, false, false, false, false, false, false, false, false, false, false] rfl rfl (any_of HT_.out (by kernel_rfl)) (fun _ _ _ h => h) (Or.inl ⟨by rfl, ?_⟩) ?_ ?_
            rotate_left
            ·intro w'
             go_simp
             with_reducible rfl
            rotate_left
            ·simp only [Act.put, List.setIfInBounds_toArray, List.set_cons_zero, List.set_cons_succ, i64_w, i32_w]
             rfl
            refine pure_ (i := 3) (N := some 22) (v := ?_) (a' := ?_) #[true, true, true, true, false, false, false, false, false, false, false, false, false, false, false, false, false, false] rfl rfl (any_of HT_.out (by kernel_rfl)) (fun _ _ _ h => h) (Or.inl ⟨by rfl, ?_⟩) ?_ ?_
            rotate_left
            ·intro w'
             go_simp
             with_reducible rfl
            rotate_left
            ·simp only [Act.put, List.setIfInBounds_toArray, List.set_cons_zero, List.set_cons_succ, i64_w, i32_w]
             rfl
            refine pure_ (i := 5) (N := some 24) (v := ?_) (a' := ?_) #[true, true, true, true, false, true, false, false, false, false, false, false, false, false, false, false, false, false] rfl rfl (any_of HT_.out (by kernel_rfl)) (fun _ _ _ h => h) (Or.inl ⟨by rfl, ?_⟩) ?_ ?_
            rotate_left
            ·intro w'
             go_simp
             with_reducible rfl
            rotate_left
            ·simp only [Act.put, List.setIfInBounds_toArray, List.set_cons_zero, List.set_cons_succ, i64_w, i32_w]
             rfl
            refine pure_ (i := 6) (N := some 25) (v := ?_) (a' := ?_) #[true, true, true, true, false, true, true, false, false, false, false, false, false, false, false, false, false, false] rfl rfl (any_of HT_.out (by kernel_rfl)) (fun _ _ _ h => h) (Or.inl ⟨by rfl, ?_⟩) ?_ ?_
            rotate_left
            ·intro w'
             go_simp
             with_reducible rfl
            rotate_left
            ·simp only [Act.put, List.setIfInBounds_toArray, List.set_cons_zero, List.set_cons_succ, i64_w, i32_w]
             rfl
            refine pure_ (i := 7) (N := some 26) (v := ?_) (a' := ?_) #[true, true, true, true, false, true, true, true, false, false, false, false, false, false, false, false, false, false] rfl rfl (any_of HT_.out (by kernel_rfl)) (fun _ _ _ h => h) (Or.inl ⟨by rfl, ?_⟩) ?_ ?_
            rotate_left
            ·intro w'
             go_simp
             with_reducible rfl
            rotate_left
            ·simp only [Act.put, List.setIfInBounds_toArray, List.set_cons_zero, List.set_cons_succ, i64_w, i32_w]
             rfl
            refine take_ (i := 4) (N := some 23) (v := ?_) (a' := ?_) #[true, true, true, true, true, true, true, true, false, false, false, false, false, false, false, false, false, false] rfl rfl (take_ofW HT_.out HW_.out (by kernel_rfl)) (fun _ _ _ h => h) (Or.inl ⟨by rfl, ?_⟩) hHeld ?_ ?_
            rotate_left
            ·rintro w' ⟨s0, s1, s2, s3, s4, s5, s6, s7, s8, s9, s10⟩
             go_simp
             with_reducible rfl
            rotate_left
            ·simp only [Act.put, List.setIfInBounds_toArray, List.set_cons_zero, List.set_cons_succ, i64_w, i32_w]
             rfl
            refine take_ (i := 8) (N := some 27) (v := ?_) (a' := ?_) #[true, true, true, true, true, true, true, true, true, false, false, false, false, false, false, false, false, false] rfl rfl (take_ofW HT_.out HW_.out (by kernel_rfl)) (fun _ _ _ h => h) (Or.inl ⟨by rfl, ?_⟩) hHeld ?_ ?_
            rotate_left
            ·rintro w' ⟨s0, s1, s2, s3, s4, s5, s6, s7, s8, s9, s10⟩
             go_simp
             with_reducible rfl
            rotate_left
            ·simp only [Act.put, List.setIfInBounds_toArray, List.set_cons_zero, List.set_cons_succ, i64_w, i32_w]
             rfl
            refine pure_ (i := 9) (N := some 28) (v := ?_) (a' := ?_) #[true, true, true, true, true, true, true, true, true, true, false, false, false, false, false, false, false, false] rfl rfl (any_of HT_.out (by kernel_rfl)) (fun _ _ _ h => h) (Or.inl ⟨by rfl, ?_⟩) ?_ ?_
            rotate_left
            ·intro w'
             go_simp
             with_reducible rfl
            rotate_left
            ·simp only [Act.put, List.setIfInBounds_toArray, List.set_cons_zero, List.set_cons_succ, i64_w, i32_w]
             rfl
            refine pure_ (i := 10) (N := some 29) (v := ?_) (a' := ?_) #[true, true, true, true, true, true, true, true, true, true, true, false, false, false, false, false, false, false] rfl rfl (any_of HT_.out (by kernel_rfl)) (fun _ _ _ h => h) (Or.inl ⟨by rfl, ?_⟩) ?_ ?_
            rotate_left
            ·intro w'
             go_simp
             with_reducible rfl
            rotate_left
            ·simp only [Act.put, List.setIfInBounds_toArray, List.set_cons_zero, List.set_cons_succ, i64_w, i32_w]
             rfl
            refine pure_ (i := 11) (N := some 30) (v := ?_) (a' := ?_) #[true, true, true, true, true, true, true, true, true, true, true, true, false, false, false, false, false, false] rfl rfl (any_of HT_.out (by kernel_rfl)) (fun _ _ _ h => h) (Or.inl ⟨by rfl, ?_⟩) ?_ ?_
            rotate_left
            ·intro w'
             go_simp
             with_reducible rfl
            rotate_left
            ·simp only [Act.put, List.setIfInBounds_toArray, List.set_cons_zero, List.set_cons_succ, i64_w, i32_w]
             rfl
            refine pure_ (i := 12) (N := some 31) (v := ?_) (a' := ?_) #[true, true, true, true, true, true, true, true, true, true, true, true, true, false, false, false, false, false] rfl rfl (any_of HT_.out (by kernel_rfl)) (fun _ _ _ h => h) (Or.inl ⟨by rfl, ?_⟩) ?_ ?_
            rotate_left
            ·intro w'
             go_simp
             with_reducible rfl
            rotate_left
            ·simp only [Act.put, List.setIfInBounds_toArray, List.set_cons_zero, List.set_cons_succ, i64_w, i32_w]
             rfl
            refine pure_ (i := 13) (N := some 32) (v := ?_) (a' := ?_) #[true, true, true, true, true, true, true, true, true, true, true, true, true, true, false, false, false, false] rfl rfl (any_of HT_.out (by kernel_rfl)) (fun _ _ _ h => h) (Or.inl ⟨by rfl, ?_⟩) ?_ ?_
            rotate_left
            ·intro w'
             go_simp
             with_reducible rfl
            rotate_left
            ·simp only [Act.put, List.setIfInBounds_toArray, List.set_cons_zero, List.set_cons_succ, i64_w, i32_w]
             rfl
            refine take_ (i := 14) (N := some 33) (v := ?_) (a' := ?_) #[true, true, true, true, true, true, true, true, true, true, true, true, true, true, true, false, false, false] rfl rfl (take_ofW HT_.out HW_.out (by kernel_rfl)) (fun _ _ _ h => h) (Or.inl ⟨by rfl, ?_⟩) hHeld ?_ ?_
            rotate_left
            ·rintro w' ⟨s0, s1, s2, s3, s4, s5, s6, s7, s8, s9, s10⟩
             go_simp
             with_reducible rfl
            rotate_left
            ·simp only [Act.put, List.setIfInBounds_toArray, List.set_cons_zero, List.set_cons_succ, i64_w, i32_w]
             rfl
            refine one_ (i := 15) (N := some 34) #[true, true, true, true, true, true, true, true, true, true, true, true, true, true, true, true, false, false] rfl rfl (one_of HT_.out (by kernel_rfl)) (by decide) (fun K hK => ?_)
            refine goes_ Tryz.func16 (by kernel_rfl) rfl #[.agg #[.int .i64 ((rd_T35 l0 x5_1).f0), .string ((rd_T35 l0 x5_1).f1), .string ((rd_T35 l0 x5_1).f2), .int .i64 ((rd_T35 l0 x5_1).f3), .slice A292_4 ((rd_T35 l0 x5_1).f4).length c292_4]] (by rfl) rfl rfl (by (try simp only [List.map_toArray, List.map_cons, List.map_nil]); first | done | rfl | (simp only [List.length_drop, List.length_take]; rfl)) ?_
            with_reducible refine (barrowlaw02_plays.calls k2 ((rd_T35 l0 x5_1).f0) ((rd_T35 l0 x5_1).f1) ((rd_T35 l0 x5_1).f2) ((rd_T35 l0 x5_1).f3) _ _ ((rd_T35 l0 x5_1).f4) false _ ?tab1_ ?side1 ?side2 A9.out).mono ?_; (case tab1_ => exact tab_keep hTab (by repeat (first | (with_reducible first | exact HB.out | apply below_alloc | apply pw_below_drewN | apply below_drew1) | exact HB.out)))
            (case side1 => repeat (first | exact (Kd.C_below HR294_4.out HB.out) | (with_reducible refine Kd.C_alloc ?_ _) | (with_reducible refine Kd.C_drewN ?_ _) | (with_reducible refine Kd.C_drew ?_)))
            (case side2 => exact HC294_4.out)
            rintro e w14 ⟨rfl, hb⟩
            refine ⟨_, rfl, ?_⟩
            have n0_ := Aside0.mk (below_step (by repeat (first | (with_reducible first | exact HB.out | apply below_alloc | apply pw_below_drewN | apply below_drew1) | exact HB.out)) hb)
            clear HB
            have HB := n0_
            clear n0_
            (try clear hb)
            (try clear hb2)
            (try clear hk)
            (try clear hi)
            refine hK.out _ _ ⟨((HB.out.cell (World.block_lt_of_cell? w _ hw292_0)).trans hw292_0), ((HB.out.cell (World.block_lt_of_cell? w _ hw292_1)).trans hw292_1), ((HB.out.cell (World.block_lt_of_cell? w _ hw292_2)).trans hw292_2), ((HB.out.cell (World.block_lt_of_cell? w _ hw292_3)).trans hw292_3), ((HB.out.cell (World.block_lt_of_cell? w _ hw292_4)).trans hw292_4), ((HB.out.cell (World.block_lt_of_cell? w _ hw293_0)).trans hw293_0), ((HB.out.cell (World.block_lt_of_cell? w _ hw294_0)).trans hw294_0), ((HB.out.cell (World.block_lt_of_cell? w _ hw294_1)).trans hw294_1), ((HB.out.cell (World.block_lt_of_cell? w _ hw294_2)).trans hw294_2), ((HB.out.cell (World.block_lt_of_cell? w _ hw294_3)).trans hw294_3), ((HB.out.cell (World.block_lt_of_cell? w _ hw294_4)).trans hw294_4)⟩ (fun hHeld => ?_)
            clear hK K
            refine norm_ (a' := ?_) ?_ ?_
            rotate_left
            ·show Act.put _ (some 34) _ = _
             simp only [Act.put, List.setIfInBounds_toArray, List.set_cons_zero, List.set_cons_succ, i64_w, i32_w]
             rfl
            refine pure_ (i := 16) (N := some 35) (v := ?_) (a' := ?_) #[true, true, true, true, true, true, true, true, true, true, true, true, true, true, true, true, true, false] rfl rfl (any_of HT_.out (by kernel_rfl)) (fun _ _ _ h => h) (Or.inl ⟨by rfl, ?_⟩) ?_ ?_
            rotate_left
            ·intro w'
             go_simp
             with_reducible rfl
            rotate_left
            ·simp only [Act.put, List.setIfInBounds_toArray, List.set_cons_zero, List.set_cons_succ, i64_w, i32_w]
             rfl
            refine pure_ (i := 17) (N := some 36) (v := ?_) (a' := ?_) #[true, true, true, true, true, true, true, true, true, true, true, true, true, true, true, true, true, true] rfl rfl (any_of HT_.out (by kernel_rfl)) (fun _ _ _ h => h) (Or.inl ⟨by rfl, ?_⟩) ?_ ?_
            rotate_left
            ·intro w'
             go_simp
             with_reducible rfl
            rotate_left
            ·simp only [Act.put, List.setIfInBounds_toArray, List.set_cons_zero, List.set_cons_succ, i64_w, i32_w]
             rfl
            refine done_ (done_of HT_.out (by kernel_rfl)) ?_
            try go_wp2
            go_ret
            exact ⟨by first | rfl | (simp [errW_none, errW_some] <;> rfl) | (simp [*, errW_none, errW_some] <;> rfl), by repeat (first | (with_reducible first | exact HB.out | apply below_alloc | apply pw_below_drewN | apply below_drew1) | exact HB.out)⟩
          ·rw [if_neg c8] at H
           have c8b0 : (((rd_T35 l0 x5_1).f0) == (rd l1 x6_2)) = false := beq_eq_false_iff_ne.mpr c8
           have c8b1 : (((rd_T35 l0 x5_1).f0) != (rd l1 x6_2)) = true := bne_iff_ne.mpr c8
           have H' := Aside0.mk H
           clear H
           try go_wp2
           have n0_ := Aside0.mk (below_drew1 HB.out)
           clear HB
           have HB := n0_
           clear n0_
           have p292 : 0 ≤ (x5_1 : Int) := of_decide_eq_true (by first | (with_reducible assumption) | assumption)
           have q292 : x5_1 < (l0.length : Int) := of_decide_eq_true (by first | (with_reducible assumption) | assumption)
           obtain ⟨ad292, A292_4, c292_4, e292, hx292_0, hx292_1, hx292_2, hx292_3, hx292_4, hl292_4, hi292_4⟩ := at_T35 HR0.out x5_1 p292 q292
           have hw292_4 := hx292_4
           have hw292_3 := hx292_3
           have hw292_2 := hx292_2
           have hw292_1 := hx292_1
           have hw292_0 := hx292_0
           cases e292
           replace hx292_0 := (HB.out.cell (World.block_lt_of_cell? w _ hx292_0)).trans hx292_0
           replace hx292_1 := (HB.out.cell (World.block_lt_of_cell? w _ hx292_1)).trans hx292_1
           replace hx292_2 := (HB.out.cell (World.block_lt_of_cell? w _ hx292_2)).trans hx292_2
           replace hx292_3 := (HB.out.cell (World.block_lt_of_cell? w _ hx292_3)).trans hx292_3
           replace hx292_4 := (HB.out.cell (World.block_lt_of_cell? w _ hx292_4)).trans hx292_4
           have HR292_4 := Aside0.mk hi292_4
           have HC292_4 := Aside0.mk hl292_4
           clear hi292_4 hl292_4
           replace p292 := eq_true p292
           replace q292 := eq_true q292
           have p293 : 0 ≤ (x6_2 : Int) := of_decide_eq_true (by first | (with_reducible assumption) | assumption)
           have q293 : x6_2 < (l1.length : Int) := of_decide_eq_true (by first | (with_reducible assumption) | assumption)
           obtain ⟨ad293, e293, hx293_0⟩ := Kd.at_int HR1.out x6_2 p293 q293
           have hw293_0 := hx293_0
           cases e293
           replace hx293_0 := (HB.out.cell (World.block_lt_of_cell? w _ hx293_0)).trans hx293_0
           replace p293 := eq_true p293
           replace q293 := eq_true q293
           refine start_ (n := 18) (S := fun w' => w'.cell? (ad292.add ((x5_1).toNat * 5)) = some (.int .i64 ((rd_T35 l0 x5_1).f0)) ∧ w'.cell? ⟨(ad292.add ((x5_1).toNat * 5)).block, (ad292.add ((x5_1).toNat * 5)).off + 1, none⟩ = some (.string ((rd_T35 l0 x5_1).f1)) ∧ w'.cell? ⟨(ad292.add ((x5_1).toNat * 5)).block, (ad292.add ((x5_1).toNat * 5)).off + 2, none⟩ = some (.string ((rd_T35 l0 x5_1).f2)) ∧ w'.cell? ⟨(ad292.add ((x5_1).toNat * 5)).block, (ad292.add ((x5_1).toNat * 5)).off + 3, none⟩ = some (.int .i64 ((rd_T35 l0 x5_1).f3)) ∧ w'.cell? ⟨(ad292.add ((x5_1).toNat * 5)).block, (ad292.add ((x5_1).toNat * 5)).off + 4, none⟩ = some (.slice A292_4 ((rd_T35 l0 x5_1).f4).length c292_4) ∧ w'.cell? (ad293.add (x6_2).toNat) = some (.int .i64 (rd l1 x6_2))) (ds := []) #[false, false, false, false, false, false, false, false, false, false, false, false, false, false, false, false, false, false] (by kernel_rfl) rfl rfl ⟨((HB.out.cell (World.block_lt_of_cell? w _ hw292_0)).trans hw292_0), ((HB.out.cell (World.block_lt_of_cell? w _ hw292_1)).trans hw292_1), ((HB.out.cell (World.block_lt_of_cell? w _ hw292_2)).trans hw292_2), ((HB.out.cell (World.block_lt_of_cell? w _ hw292_3)).trans hw292_3), ((HB.out.cell (World.block_lt_of_cell? w _ hw292_4)).trans hw292_4), ((HB.out.cell (World.block_lt_of_cell? w _ hw293_0)).trans hw293_0)⟩ (fun hHeld => ?_); refine with_tabW barrowlaw02_only.tab7 barrowlaw02_only.bits7 (fun HT_ HW_ => ?_)
           generalize wr.drew = w15 at HB HR292_4 hx292_0 hx292_1 hx292_2 hx292_3 hx292_4 hx293_0 hHeld ⊢
           refine pure_ (i := 0) (N := some 19) (v := ?_) (a' := ?_) #[true, false, false, false, false, false, false, false, false, false, false, false, false, false, false, false, false, false] rfl rfl (any_of HT_.out (by kernel_rfl)) (fun _ _ _ h => h) (Or.inl ⟨by rfl, ?_⟩) ?_ ?_
           rotate_left
           ·intro w'
            go_simp
            with_reducible rfl
           rotate_left
           ·simp only [Act.put, List.setIfInBounds_toArray, List.set_cons_zero, List.set_cons_succ, i64_w, i32_w]
            rfl
           refine pure_ (i := 1) (N := some 20) (v := ?_) (a' := ?_) #[true, true, false, false, false, false, false, false, false, false, false, false, false, false, false, false, false, false] rfl rfl (any_of HT_.out (by kernel_rfl)) (fun _ _ _ h => h) (Or.inl ⟨by rfl, ?_⟩) ?_ ?_
           rotate_left
           ·intro w'
            go_simp
            with_reducible rfl
           rotate_left
           ·simp only [Act.put, List.setIfInBounds_toArray, List.set_cons_zero, List.set_cons_succ, i64_w, i32_w]
            rfl
           refine pure_ (i := 2) (N := some 21) (v := ?_) (a' := ?_) #[true, true, true, false, false, false, false, false, false, false, false, false, false, false, false, false, false, false] rfl rfl (any_of HT_.out (by kernel_rfl)) (fun _ _ _ h => h) (Or.inl ⟨by rfl, ?_⟩) ?_ ?_
           rotate_left
           ·intro w'
            go_simp
            with_reducible rfl
           rotate_left
           ·simp only [Act.put, List.setIfInBounds_toArray, List.set_cons_zero, List.set_cons_succ, i64_w, i32_w]
            rfl
           refine pure_ (i := 3) (N := some 22) (v := ?_) (a' := ?_) #[true, true, true, true, false, false, false, false, false, false, false, false, false, false, false, false, false, false] rfl rfl (any_of HT_.out (by kernel_rfl)) (fun _ _ _ h => h) (Or.inl ⟨by rfl, ?_⟩) ?_ ?_
           rotate_left
           ·intro w'
            go_simp
            with_reducible rfl
           rotate_left
           ·simp only [Act.put, List.setIfInBounds_toArray, List.set_cons_zero, List.set_cons_succ, i64_w, i32_w]
            rfl
           refine pure_ (i := 5) (N := some 24) (v := ?_) (a' := ?_) #[true, true, true, true, false, true, false, false, false, false, false, false, false, false, false, false, false, false] rfl rfl (any_of HT_.out (by kernel_rfl)) (fun _ _ _ h => h) (Or.inl ⟨by rfl, ?_⟩) ?_ ?_
           rotate_left
           ·intro w'
            go_simp
            with_reducible rfl
           rotate_left
           ·simp only [Act.put, List.setIfInBounds_toArray, List.set_cons_zero, List.set_cons_succ, i64_w, i32_w]
            rfl
           refine pure_ (i := 6) (N := some 25) (v := ?_) (a' := ?_) #[true, true, true, true, false, true, true, false, false, false, false, false, false, false, false, false, false, false] rfl rfl (any_of HT_.out (by kernel_rfl)) (fun _ _ _ h => h) (Or.inl ⟨by rfl, ?_⟩) ?_ ?_
           rotate_left
           ·intro w'
            go_simp
            with_reducible rfl
           rotate_left
           ·simp only [Act.put, List.setIfInBounds_toArray, List.set_cons_zero, List.set_cons_succ, i64_w, i32_w]
            rfl
           refine pure_ (i := 7) (N := some 26) (v := ?_) (a' := ?_) #[true, true, true, true, false, true, true, true, false, false, false, false, false, false, false, false, false, false] rfl rfl (any_of HT_.out (by kernel_rfl)) (fun _ _ _ h => h) (Or.inl ⟨by rfl, ?_⟩) ?_ ?_
           rotate_left
           ·intro w'
            go_simp
            with_reducible rfl
           rotate_left
           ·simp only [Act.put, List.setIfInBounds_toArray, List.set_cons_zero, List.set_cons_succ, i64_w, i32_w]
            rfl
           refine take_ (i := 4) (N := some 23) (v := ?_) (a' := ?_) #[true, true, true, true, true, true, true, true, false, false, false, false, false, false, false, false, false, false] rfl rfl (take_ofW HT_.out HW_.out (by kernel_rfl)) (fun _ _ _ h => h) (Or.inl ⟨by rfl, ?_⟩) hHeld ?_ ?_
           rotate_left
           ·rintro w' ⟨s0, s1, s2, s3, s4, s5⟩
            go_simp
            with_reducible rfl
           rotate_left
           ·simp only [Act.put, List.setIfInBounds_toArray, List.set_cons_zero, List.set_cons_succ, i64_w, i32_w]
            rfl
           refine take_ (i := 8) (N := some 27) (v := ?_) (a' := ?_) #[true, true, true, true, true, true, true, true, true, false, false, false, false, false, false, false, false, false] rfl rfl (take_ofW HT_.out HW_.out (by kernel_rfl)) (fun _ _ _ h => h) (Or.inl ⟨by rfl, ?_⟩) hHeld ?_ ?_
           rotate_left
           ·rintro w' ⟨s0, s1, s2, s3, s4, s5⟩
            go_simp
            with_reducible rfl
           rotate_left
           ·simp only [Act.put, List.setIfInBounds_toArray, List.set_cons_zero, List.set_cons_succ, i64_w, i32_w]
            rfl
           refine pure_ (i := 9) (N := some 28) (v := ?_) (a' := ?_) #[true, true, true, true, true, true, true, true, true, true, false, false, false, false, false, false, false, false] rfl rfl (any_of HT_.out (by kernel_rfl)) (fun _ _ _ h => h) (Or.inl ⟨by rfl, ?_⟩) ?_ ?_
           rotate_left
           ·intro w'
            go_simp
            with_reducible rfl
           rotate_left
           ·simp only [Act.put, List.setIfInBounds_toArray, List.set_cons_zero, List.set_cons_succ, i64_w, i32_w]
            rfl
           refine pure_ (i := 10) (N := some 29) (v := ?_) (a' := ?_) #[true, true, true, true, true, true, true, true, true, true, true, false, false, false, false, false, false, false] rfl rfl (any_of HT_.out (by kernel_rfl)) (fun _ _ _ h => h) (Or.inl ⟨by rfl, ?_⟩) ?_ ?_
           rotate_left
           ·intro w'
            go_simp
            with_reducible rfl
           rotate_left
           ·simp only [Act.put, List.setIfInBounds_toArray, List.set_cons_zero, List.set_cons_succ, i64_w, i32_w]
            rfl
           refine pure_ (i := 11) (N := some 30) (v := undef) (a' := ?_) #[true, true, true, true, true, true, true, true, true, true, true, true, false, false, false, false, false, false] rfl rfl (any_of HT_.out (by kernel_rfl)) (fun _ _ _ h => h) (Or.inr ⟨by rfl, rfl⟩) ?_ ?_
           rotate_left
           ·simp only [Act.put, List.setIfInBounds_toArray, List.set_cons_zero, List.set_cons_succ, i64_w, i32_w]
            rfl
           refine pure_ (i := 12) (N := some 31) (v := undef) (a' := ?_) #[true, true, true, true, true, true, true, true, true, true, true, true, true, false, false, false, false, false] rfl rfl (any_of HT_.out (by kernel_rfl)) (fun _ _ _ h => h) (Or.inr ⟨by rfl, rfl⟩) ?_ ?_
           rotate_left
           ·simp only [Act.put, List.setIfInBounds_toArray, List.set_cons_zero, List.set_cons_succ, i64_w, i32_w]
            rfl
           refine pure_ (i := 13) (N := some 32) (v := undef) (a' := ?_) #[true, true, true, true, true, true, true, true, true, true, true, true, true, true, false, false, false, false] rfl rfl (any_of HT_.out (by kernel_rfl)) (fun _ _ _ h => h) (Or.inr ⟨by rfl, rfl⟩) ?_ ?_
           rotate_left
           ·simp only [Act.put, List.setIfInBounds_toArray, List.set_cons_zero, List.set_cons_succ, i64_w, i32_w]
            rfl
           refine pure_ (i := 14) (N := some 33) (v := undef) (a' := ?_) #[true, true, true, true, true, true, true, true, true, true, true, true, true, true, true, false, false, false] rfl rfl (any_of HT_.out (by kernel_rfl)) (fun _ _ _ h => h) (Or.inr ⟨by rfl, rfl⟩) ?_ ?_
           rotate_left
           ·simp only [Act.put, List.setIfInBounds_toArray, List.set_cons_zero, List.set_cons_succ, i64_w, i32_w]
            rfl
           refine pure_ (i := 15) (N := some 34) (v := undef) (a' := ?_) #[true, true, true, true, true, true, true, true, true, true, true, true, true, true, true, true, false, false] rfl rfl (any_of HT_.out (by kernel_rfl)) (fun _ _ _ h => h) (Or.inr ⟨by rfl, rfl⟩) ?_ ?_
           rotate_left
           ·simp only [Act.put, List.setIfInBounds_toArray, List.set_cons_zero, List.set_cons_succ, i64_w, i32_w]
            rfl
           refine pure_ (i := 16) (N := some 35) (v := undef) (a' := ?_) #[true, true, true, true, true, true, true, true, true, true, true, true, true, true, true, true, true, false] rfl rfl (any_of HT_.out (by kernel_rfl)) (fun _ _ _ h => h) (Or.inr ⟨by rfl, rfl⟩) ?_ ?_
           rotate_left
           ·simp only [Act.put, List.setIfInBounds_toArray, List.set_cons_zero, List.set_cons_succ, i64_w, i32_w]
            rfl
           refine pure_ (i := 17) (N := some 36) (v := ?_) (a' := ?_) #[true, true, true, true, true, true, true, true, true, true, true, true, true, true, true, true, true, true] rfl rfl (any_of HT_.out (by kernel_rfl)) (fun _ _ _ h => h) (Or.inl ⟨by rfl, ?_⟩) ?_ ?_
           rotate_left
           ·intro w'
            go_simp
            with_reducible rfl
           rotate_left
           ·simp only [Act.put, List.setIfInBounds_toArray, List.set_cons_zero, List.set_cons_succ, i64_w, i32_w]
            rfl
           refine done_ (done_of HT_.out (by kernel_rfl)) ?_
           try go_wp2
           go_roundg k2
           case measure => have := HK1.out; have := HK2.out; omega
           case rel => exact ⟨(wrap64 (x6_2 + 1)), (by first | rfl | (simp; done) | (simp [*]; done)), H', ⟨by have := HK1.out; have := HK2.out; omega⟩, ⟨by repeat (first | (with_reducible first | exact HB.out | apply below_alloc | apply pw_below_drewN | apply below_drew1) | exact HB.out)⟩⟩
         ·rw [if_neg c7] at H
          exact absurd H (by simp)
        ·rw [if_neg c6] at H
         exact absurd H (by simp)
       ·rw [if_neg c5] at H
        exact absurd H (by simp)
      ·rw [if_neg c4] at H
       have c4b0 : decide (x6_2 < (l1.length : Int)) = false := decide_eq_false c4
       clear c4
       have H' := Aside0.mk H
       clear H
       go_wp2
       go_roundg k2
       case measure => have := HK1.out; have := HK2.out; omega
       case rel => exact ⟨(wrap64 (x5_1 + 1)), (by first | rfl | (simp; done) | (simp [*]; done)), H', ⟨by have := HK1.out; have := HK2.out; omega⟩, ⟨by repeat (first | (with_reducible first | exact HB.out | apply below_alloc | apply pw_below_drewN | apply below_drew1) | exact HB.out)⟩⟩
   ·rw [if_neg c3] at H
    have c3b0 : decide (x5_1 < (l0.length : Int)) = false := decide_eq_false c3
    clear c3
    obtain rfl := Option.some.inj H
    go_wp2
    go_ret
    exact ⟨by first | rfl | (simp [errW_none, errW_some] <;> rfl) | (simp [*, errW_none, errW_some] <;> rfl), by repeat (first | (with_reducible first | exact HB.out | apply below_alloc | apply pw_below_drewN | apply below_drew1) | exact HB.out)⟩

end Go.Proofs.YtmicghhmbojkfaaGreatDoor.G

-- PRINTED by print.py (a twelfth state) out of the translation. Not trusted: Lean checks it.
namespace Go.Proofs.YtmicghhmbojkfaaGreatDoor.G
open Go.RowKit Go.Proofs.YtmicghhmbojkfaaGreatDoorW.PrintWords Go.Proofs.YtmicghhmbojkfaaGreatDoorW.PrintLast Go.Proofs.YtmicghhmbojkfaaGreatDoorW.PrintMore
attribute [local go_sem] max2_int min2_int max_two min_two max_three min_three max_four min_four   -- for this text's walks alone
set_option linter.unusedVariables false
set_option linter.unusedSimpArgs false

/-! ### barrowlaw02_GoodsMatches: function 5 -/
def barrowlaw02_GoodsMatches.f (k : Nat) (l0 : List (S35)) : Option (Bool) := (goods_Match.f k (⟨#[65, 42, 45, 35, 35]⟩ : ByteArray) (⟨#[65, 88, 45, 49, 50]⟩ : ByteArray)).bind fun bt309 => (if bt309.1 = true then (if bt309.2 = 0 then ((barrowlaw02_only.f k l0 (([6, 12] : List Int))).bind fun t314 => (some t314)) else (some false)) else (some false))
theorem barrowlaw02_GoodsMatches.mono : ∀ a0 k, LeO (barrowlaw02_GoodsMatches.f k a0) (barrowlaw02_GoodsMatches.f (k + 1) a0) := by
 intro a0 k
 unfold barrowlaw02_GoodsMatches.f
 repeat' first
   | (with_reducible exact barrowlaw02_only.mono _ _ _)
   | (with_reducible exact goods_Match.mono _ _ _)
   | (with_reducible exact LeO.refl _)
   | (with_reducible exact LeO.none _)
   | (with_reducible refine LeO.ite ?_ ?_)
   | (with_reducible refine LeO.bind ?_ (fun _ => ?_))
   | exact barrowlaw02_only.mono _ _ _
   | exact goods_Match.mono _ _ _
   | exact LeO.none _
   | refine LeO.ite ?_ ?_
   | refine LeO.bind ?_ (fun _ => ?_)
set_option maxHeartbeats 8000000 in
set_option maxRecDepth 100000 in
theorem barrowlaw02_GoodsMatches.calls (k : Nat) (A0 : Option Addr) (c0 : Nat) (l0 : List (S35)) (r : Bool) (w : World) (hTab : Aside0 (Tab w)) (hr0 : Kd.C k35 w A0 l0.length l0) (hc0 : l0.length ≤ c0) (h : barrowlaw02_GoodsMatches.f k l0 = some r) :
  Calls Tryz.prog 5 #[.slice A0 l0.length c0] w fun e w' => e = .returned (.bool r) ∧ Below w.heap.size w w' := by
 have HR0 := Aside0.mk hr0
 have HC0 := Aside0.mk hc0
 clear hr0 hc0
 have HB := Aside0.mk (Below.refl w.heap.size w)
 have H : ((goods_Match.f k (⟨#[65, 42, 45, 35, 35]⟩ : ByteArray) (⟨#[65, 88, 45, 49, 50]⟩ : ByteArray)).bind fun bt309 => (if bt309.1 = true then (if bt309.2 = 0 then ((barrowlaw02_only.f k l0 (([6, 12] : List Int))).bind fun t314 => (some t314)) else (some false)) else (some false))) = some r := h
 clear h
 replace H := Option.bind_eq_some_iff.mp H
 obtain ⟨⟨t309, t310⟩, A20, H⟩ := H
 replace H : (if t309 = true then (if t310 = 0 then ((barrowlaw02_only.f k l0 (([6, 12] : List Int))).bind fun t314 => (some t314)) else (some false)) else (some false)) = some r := H
 have A2 := Aside0.mk A20
 clear A20
 by_cases c3 : t309 = true
 ·subst c3
  have H1 : (if t310 = 0 then ((barrowlaw02_only.f k l0 (([6, 12] : List Int))).bind fun t314 => (some t314)) else (some false)) = some r := by rw [if_pos rfl] at H; exact H
  clear H
  have H := H1
  clear H1
  by_cases c4 : t310 = 0
  ·rw [if_pos c4] at H
   have c4b0 : (t310 == 0) = true := beq_iff_eq.mpr c4
   have c4b1 : (t310 != 0) = false := bne_eq_false_iff_eq.mpr c4
   clear c4
   obtain ⟨y311, hy311⟩ : ∃ y_ : List Int, y_ = (([6, 12] : List Int)) := ⟨_, rfl⟩
   replace H : ((barrowlaw02_only.f k l0 y311).bind fun t314 => (some t314)) = some r := by first | (rw [hy311]; with_reducible exact H) | (have H2_ := (Option.bind_some _ _).symm.trans H; rw [hy311]; with_reducible exact H2_) | (have H2_ := (Option.bind_some _ _).symm.trans H; with_reducible exact H2_) | with_reducible exact H | (rw [hy311]; exact H) | exact H
   have Ny311 := Aside0.mk hy311
   clear hy311
   replace H := Option.bind_eq_some_iff.mp H
   obtain ⟨t314, A50, H⟩ := H
   replace H : (some t314) = some r := H
   have A5 := Aside0.mk A50
   clear A50
   obtain rfl := Option.some.inj H
   go_enter Tryz.func5, Tryz.ntmps5
   go_wp2_with (first | ((with_reducible refine gate_callee (f := 13) rfl ?_); refine goesL_ (some 6) rfl rfl Tryz.func13 (by kernel_rfl) rfl #[.string (⟨#[65, 42, 45, 35, 35]⟩ : ByteArray), .string (⟨#[65, 88, 45, 49, 50]⟩ : ByteArray)] rfl (by (try simp only [List.map_toArray, List.map_cons, List.map_nil]); first | done | rfl | (simp only [List.length_drop, List.length_take]; rfl)) ?_; (with_reducible refine (goods_Match.calls k (⟨#[65, 42, 45, 35, 35]⟩ : ByteArray) (⟨#[65, 88, 45, 49, 50]⟩ : ByteArray) true t310 _ A2.out).mono ?_); rintro e w6 ⟨rfl, hb⟩; refine ⟨_, rfl, ?_⟩; have n0_ := Aside0.mk (below_step (by repeat (first | (with_reducible first | exact HB.out | apply below_alloc | apply pw_below_drewN | apply below_drew1) | exact HB.out)) hb); clear HB; have HB := n0_; clear n0_; (try clear hb); (try clear hb2); (try clear hk); (try clear hi)) | ((with_reducible refine gate_dst (N := 16) rfl ?_); refine Kd.R_lit (Kd.int .i64) _ 3 ?hg (N := 16) ?hd (xs := ([6, 12] : List Int)) (inner := [.int .i64 6, .int .i64 12]) (ok := fun _ => True) (okp := fun _ => True) ?hr ?hp (fun _ hk => hk) trivial (Below.refl _ _) (Nat.le_refl _) (by simp) ?_; (case hd => rfl); (case hg => rfl); (case hr => first | (go_simp; done) | (go_simp; rfl)); (case hp => exact (Reps.one (show Kd.M (Kd.int .i64) _ _ _ 6 [.int .i64 6] from rfl) (Reps.one (show Kd.M (Kd.int .i64) _ _ _ 12 [.int .i64 12] from rfl) (Reps.none _ _)))); intro v312 w7 ho8 hb hg_ hnew_; clear hg_ hnew_; (first | rw [← Ny311.out] at ho8 | (simp only [Int.reduceToNat] at ho8; rw [← Ny311.out] at ho8)); have n0_ := Aside0.mk (Kd.R_lower ho8 (below_size (by repeat (first | (with_reducible first | exact HB.out | apply below_alloc | apply pw_below_drewN | apply below_drew1) | exact HB.out)))); have n1_ := Aside0.mk (below_step (by repeat (first | (with_reducible first | exact HB.out | apply below_alloc | apply pw_below_drewN | apply below_drew1) | exact HB.out)) hb); clear HB; have HO313 := n0_; have HB := n1_; clear n0_ n1_; clear hb ho8; obtain ⟨Ao9, co9, eo9⟩ := Kd.R_slice HO313.out; subst eo9) | ((with_reducible refine gate_callee (f := 11) rfl ?_); refine goesL_ (some 17) rfl rfl Tryz.func11 (by kernel_rfl) rfl #[.slice A0 l0.length c0, .slice Ao9 y311.length co9] rfl (by (try simp only [List.map_toArray, List.map_cons, List.map_nil]); first | done | rfl | (simp only [List.length_drop, List.length_take]; rfl)) ?_; (with_reducible refine (barrowlaw02_only.calls k _ _ l0 _ _ y311 t314 _ ?tab1_ ?side1 ?side2 ?side3 ?side4 A5.out).mono ?_); (case tab1_ => exact tab_keep hTab (by repeat (first | (with_reducible first | exact HB.out | apply below_alloc | apply pw_below_drewN | apply below_drew1) | exact HB.out))); (case side1 => repeat (first | exact (Kd.C_below HR0.out HB.out) | (with_reducible refine Kd.C_alloc ?_ _) | (with_reducible refine Kd.C_drewN ?_ _) | (with_reducible refine Kd.C_drew ?_))); (case side2 => exact HC0.out); (case side3 => repeat (first | exact (Kd.R_reads' HO313.out).2.2 | (with_reducible refine Kd.C_alloc ?_ _) | (with_reducible refine Kd.C_drewN ?_ _) | (with_reducible refine Kd.C_drew ?_))); (case side4 => exact (Kd.R_reads' HO313.out).2.1); rintro e w10 ⟨rfl, hb⟩; refine ⟨_, rfl, ?_⟩; have n0_ := Aside0.mk (Kd.R_below (by (with_reducible repeat (first | apply Kd.R_alloc | apply Kd.R_drewN | apply Kd.R_drew)); exact HO313.out) hb); have n1_ := Aside0.mk (below_step (by repeat (first | (with_reducible first | exact HB.out | apply below_alloc | apply pw_below_drewN | apply below_drew1) | exact HB.out)) hb); clear HO313; clear HB; have HO313 := n0_; have HB := n1_; clear n0_ n1_; (try clear hb); (try clear hb2); (try clear hk); (try clear hi)))
   go_ret
   exact ⟨by first | rfl | (simp [errW_none, errW_some] <;> rfl) | (simp [*, errW_none, errW_some] <;> rfl), by repeat (first | (with_reducible first | exact HB.out | apply below_alloc | apply pw_below_drewN | apply below_drew1) | exact HB.out)⟩
  ·rw [if_neg c4] at H
   have c4b0 : (t310 == 0) = false := beq_eq_false_iff_ne.mpr c4
   have c4b1 : (t310 != 0) = true := bne_iff_ne.mpr c4
   obtain rfl := Option.some.inj H
   go_enter Tryz.func5, Tryz.ntmps5
   go_wp2_with (first | ((with_reducible refine gate_callee (f := 13) rfl ?_); refine goesL_ (some 6) rfl rfl Tryz.func13 (by kernel_rfl) rfl #[.string (⟨#[65, 42, 45, 35, 35]⟩ : ByteArray), .string (⟨#[65, 88, 45, 49, 50]⟩ : ByteArray)] rfl (by (try simp only [List.map_toArray, List.map_cons, List.map_nil]); first | done | rfl | (simp only [List.length_drop, List.length_take]; rfl)) ?_; (with_reducible refine (goods_Match.calls k (⟨#[65, 42, 45, 35, 35]⟩ : ByteArray) (⟨#[65, 88, 45, 49, 50]⟩ : ByteArray) true t310 _ A2.out).mono ?_); rintro e w11 ⟨rfl, hb⟩; refine ⟨_, rfl, ?_⟩; have n0_ := Aside0.mk (below_step (by repeat (first | (with_reducible first | exact HB.out | apply below_alloc | apply pw_below_drewN | apply below_drew1) | exact HB.out)) hb); clear HB; have HB := n0_; clear n0_; (try clear hb); (try clear hb2); (try clear hk); (try clear hi)))
   go_ret
   exact ⟨by first | rfl | (simp [errW_none, errW_some] <;> rfl) | (simp [*, errW_none, errW_some] <;> rfl), by repeat (first | (with_reducible first | exact HB.out | apply below_alloc | apply pw_below_drewN | apply below_drew1) | exact HB.out)⟩
 ·replace c3 := Bool.eq_false_iff.mpr c3
  subst c3
  have H1 : (some false) = some r := by rw [if_neg (show ¬ (false = true) by decide)] at H; exact H
  clear H
  have H := H1
  clear H1
  obtain rfl := Option.some.inj H
  go_enter Tryz.func5, Tryz.ntmps5
  go_wp2_with (first | ((with_reducible refine gate_callee (f := 13) rfl ?_); refine goesL_ (some 6) rfl rfl Tryz.func13 (by kernel_rfl) rfl #[.string (⟨#[65, 42, 45, 35, 35]⟩ : ByteArray), .string (⟨#[65, 88, 45, 49, 50]⟩ : ByteArray)] rfl (by (try simp only [List.map_toArray, List.map_cons, List.map_nil]); first | done | rfl | (simp only [List.length_drop, List.length_take]; rfl)) ?_; (with_reducible refine (goods_Match.calls k (⟨#[65, 42, 45, 35, 35]⟩ : ByteArray) (⟨#[65, 88, 45, 49, 50]⟩ : ByteArray) false t310 _ A2.out).mono ?_); rintro e w12 ⟨rfl, hb⟩; refine ⟨_, rfl, ?_⟩; have n0_ := Aside0.mk (below_step (by repeat (first | (with_reducible first | exact HB.out | apply below_alloc | apply pw_below_drewN | apply below_drew1) | exact HB.out)) hb); clear HB; have HB := n0_; clear n0_; (try clear hb); (try clear hb2); (try clear hk); (try clear hi)))
  go_ret
  exact ⟨by first | rfl | (simp [errW_none, errW_some] <;> rfl) | (simp [*, errW_none, errW_some] <;> rfl), by repeat (first | (with_reducible first | exact HB.out | apply below_alloc | apply pw_below_drewN | apply below_drew1) | exact HB.out)⟩

end Go.Proofs.YtmicghhmbojkfaaGreatDoor.G

/- The frame of the laws over scripts of calls: every step of some kinds is as the reference has it, if each kind of call is. -/
namespace Go.Proofs.YtmicghhmbojkfaaGreatDoor.Fr
open Go.RowKit Go.Proofs.YtmicghhmbojkfaaGreatDoor.G Go.Proofs.YtmicghhmbojkfaaGreatDoorW.PrintWords Go.Proofs.YtmicghhmbojkfaaGreatDoorW.PrintLast Go.Proofs.YtmicghhmbojkfaaGreatDoorW.PrintMore
/-- What a row's reading says of a step. -/
structure OpOk (x : S35) : Prop where
  a : x.f1.size ≤ 140737488351232
  b : x.f2.size ≤ 140737488351232
  n : -9223372036854775808 ≤ x.f3 ∧ x.f3 ≤ 9223372036854775807
  l : ∀ c ∈ x.f4, -9223372036854775808 ≤ c ∧ c ≤ 9223372036854775807
  m : x.f4.length ≤ 17592186043904
/-- A step is as the reference has it. -/
def PlayOk (x : S35) : Prop := Ev (fun k => barrowlaw02_plays.f k x.f0 x.f1 x.f2 x.f3 x.f4) true
theorem plays_of (x : S35)
    (h1 : x.f0 = 1 ∨ x.f0 = 2 ∨ x.f0 = 11 → Ev (fun k => barrowlaw02_name.f k x.f0 x.f1 x.f2 x.f3 x.f4) true)
    (h2 : x.f0 = 3 ∨ x.f0 = 4 ∨ x.f0 = 5 → Ev (fun k => barrowlaw02_article.f k x.f0 x.f1 x.f2 x.f3 x.f4) true)
    (h3 : x.f0 = 6 ∨ x.f0 = 12 → Ev (fun k => barrowlaw02_match.f k x.f1 x.f2) true)
    (h4 : x.f0 = 12 → Ev (fun k => barrowlaw02_match.f k x.f2 x.f2) true)
    (h5 : x.f0 = 7 → ∃ c, Ev (fun k => goods_Compare.f k x.f1 x.f2) c ∧ Ev (fun k => barrowref02_Compare.f k x.f1 x.f2) c)
    (h6 : x.f0 = 8 ∨ x.f0 = 9 ∨ x.f0 = 10 → Ev (fun k => barrowlaw02_quantity.f k x.f0 x.f1 x.f2 x.f3 x.f4) true) : PlayOk x := by
  unfold PlayOk
  have now : ∀ g : Nat → Option Bool, Ev g true → Ev (fun k => (g k).bind fun t => some t) true := fun g h => Ev.bind h (Ev.now true)
  by_cases c1 : x.f0 = 1 ∨ x.f0 = 2 ∨ x.f0 = 11
  · refine Ev.step (f := fun k => (barrowlaw02_name.f k x.f0 x.f1 x.f2 x.f3 x.f4).bind fun t => some t) (fun k => ?_) (now _ (h1 c1))
    unfold barrowlaw02_plays.f
    by_cases e1 : x.f0 = 1
    · rw [if_pos e1, barrowlaw02_plays.j0, if_pos (by rw [e1]; rfl)]
    · rw [if_neg e1]
      by_cases e2 : x.f0 = 2
      · rw [if_pos e2, barrowlaw02_plays.j0, if_pos (by rw [e2]; rfl)]
      · rw [if_neg e2, barrowlaw02_plays.j0, if_pos (by rw [show x.f0 = 11 by omega]; rfl)]
  · have base : ∀ k b, barrowlaw02_plays.f (k + 1 + 1) x.f0 x.f1 x.f2 x.f3 x.f4 = (if x.f0 = 3 then barrowlaw02_plays.j1 (k + 1) x.f0 (x.f0 == 3) x.f0 x.f1 x.f2 x.f3 x.f4 else if x.f0 = 4 then barrowlaw02_plays.j1 (k + 1) x.f0 (x.f0 == 4) x.f0 x.f1 x.f2 x.f3 x.f4 else barrowlaw02_plays.j1 (k + 1) x.f0 (x.f0 == 5) x.f0 x.f1 x.f2 x.f3 x.f4) ∨ b = true := by
      intro k b
      left
      unfold barrowlaw02_plays.f
      rw [if_neg (by omega), if_neg (by omega), barrowlaw02_plays.j0, if_neg (by simp; omega)]
    by_cases c2 : x.f0 = 3 ∨ x.f0 = 4 ∨ x.f0 = 5
    · refine Ev.step (f := fun k => barrowlaw02_plays.f (k + 1) x.f0 x.f1 x.f2 x.f3 x.f4) (fun k => rfl) (Ev.step (f := fun k => (barrowlaw02_article.f k x.f0 x.f1 x.f2 x.f3 x.f4).bind fun t => some t) (fun k => ?_) (now _ (h2 c2)))
      rw [(base k false).resolve_right (by decide)]
      by_cases e1 : x.f0 = 3
      · rw [if_pos e1, barrowlaw02_plays.j1, if_pos (by rw [e1]; rfl)]
      · rw [if_neg e1]
        by_cases e2 : x.f0 = 4
        · rw [if_pos e2, barrowlaw02_plays.j1, if_pos (by rw [e2]; rfl)]
        · rw [if_neg e2, barrowlaw02_plays.j1, if_pos (by rw [show x.f0 = 5 by omega]; rfl)]
    · have base2 : ∀ k, barrowlaw02_plays.f (k + 1 + 1) x.f0 x.f1 x.f2 x.f3 x.f4 = barrowlaw02_plays.j1 (k + 1) x.f0 false x.f0 x.f1 x.f2 x.f3 x.f4 := by
        intro k
        rw [(base k false).resolve_right (by decide), if_neg (by omega), if_neg (by omega), show (x.f0 == 5) = false from by simp; omega]
      have go : ∀ f : Nat → Option Bool, (∀ k, barrowlaw02_plays.j1 (k + 1) x.f0 false x.f0 x.f1 x.f2 x.f3 x.f4 = f k) → Ev f true → Ev (fun k => barrowlaw02_plays.f k x.f0 x.f1 x.f2 x.f3 x.f4) true :=
        fun f hf h => Ev.step (f := fun k => barrowlaw02_plays.f (k + 1) x.f0 x.f1 x.f2 x.f3 x.f4) (fun k => rfl) (Ev.step (f := f) (fun k => (base2 k).trans (hf k)) h)
      by_cases c6 : x.f0 = 6
      · refine go (fun k => (barrowlaw02_match.f k x.f1 x.f2).bind fun t => some t) (fun k => ?_) (now _ (h3 (.inl c6)))
        rw [barrowlaw02_plays.j1, if_neg (by decide), if_pos c6]
      · by_cases c12 : x.f0 = 12
        · refine go (fun k => (barrowlaw02_match.f k x.f1 x.f2).bind fun t => if t = true then (barrowlaw02_match.f k x.f2 x.f2).bind fun t => some t else some false) (fun k => ?_) (Ev.bind (h3 (.inr c12)) (Ev.congr (fun k => if_pos rfl) (now _ (h4 c12))))
          rw [barrowlaw02_plays.j1, if_neg (by decide), if_neg c6, if_pos c12]
        · by_cases c7 : x.f0 = 7
          · obtain ⟨c, g1, g2⟩ := h5 c7
            refine go (fun k => (goods_Compare.f k x.f1 x.f2).bind fun t => (barrowref02_Compare.f k x.f1 x.f2).bind fun u => some (t == u)) (fun k => ?_) (Ev.bind g1 (Ev.bind g2 (Ev.congr (fun k => by simp) (Ev.now true))))
            rw [barrowlaw02_plays.j1, if_neg (by decide), if_neg c6, if_neg c12, if_pos c7]
          · by_cases c8 : x.f0 = 8 ∨ x.f0 = 9 ∨ x.f0 = 10
            · refine go (fun k => (barrowlaw02_quantity.f k x.f0 x.f1 x.f2 x.f3 x.f4).bind fun t => some t) (fun k => ?_) (now _ (h6 c8))
              rw [barrowlaw02_plays.j1, if_neg (by decide), if_neg c6, if_neg c12, if_neg c7]
              by_cases e1 : x.f0 = 8
              · rw [if_pos e1]
              · rw [if_neg e1]
                by_cases e2 : x.f0 = 9
                · rw [if_pos e2]
                · rw [if_neg e2, if_pos (by omega)]
            · refine go (fun _ => some true) (fun k => ?_) (Ev.now true)
              rw [barrowlaw02_plays.j1, if_neg (by decide), if_neg c6, if_neg c12, if_neg c7, if_neg (by omega), if_neg (by omega), if_neg (by omega)]
theorem rd_at (xs : List S35) (i : Nat) (h : i < xs.length) : rd_T35 xs (i : Int) = xs[i] := by
  unfold rd_T35
  rw [Int.toNat_natCast, List.getD_eq_getElem?_getD, List.getElem?_eq_getElem h]; rfl
theorem wrap_up (i : Nat) (h : i < 1152921504606846976) : wrap64 ((i : Int) + 1) = ((i + 1 : Nat) : Int) := by unfold wrap64; omega
end Go.Proofs.YtmicghhmbojkfaaGreatDoor.Fr

/- The frame of the laws over scripts of calls: the walk over the steps of some kinds. -/
namespace Go.Proofs.YtmicghhmbojkfaaGreatDoor.Fr
open Go.RowKit Go.Proofs.YtmicghhmbojkfaaGreatDoor.G Go.Proofs.YtmicghhmbojkfaaGreatDoorW.PrintWords Go.Proofs.YtmicghhmbojkfaaGreatDoorW.PrintLast Go.Proofs.YtmicghhmbojkfaaGreatDoorW.PrintMore
theorem rdi_at (xs : List Int) (i : Nat) (h : i < xs.length) : rd xs (i : Int) = xs[i] := by
  unfold rd
  rw [Int.toNat_natCast, List.getD_eq_getElem?_getD, List.getElem?_eq_getElem h]; rfl
theorem only_l1 (xs : List S35) (ks : List Int) (hx : xs.length ≤ 1152921504606846976) (hk : ks.length ≤ 100) (i : Nat) (hi : i < xs.length) (hp : xs[i].f0 ∈ ks → PlayOk xs[i])
    (hn : Ev (fun k => barrowlaw02_only.l0 k xs ks ((i + 1 : Nat) : Int)) true) : ∀ (d j : Nat), j + d = ks.length → Ev (fun k => barrowlaw02_only.l1 k xs ks i j) true
  | 0, j, hj => Ev.step (f := fun k => barrowlaw02_only.l0 k xs ks ((i + 1 : Nat) : Int)) (fun k => by rw [barrowlaw02_only.l1, if_neg (by omega), wrap_up i (by omega)]) hn
  | d + 1, j, hj => by
    have ih := only_l1 xs ks hx hk i hi hp hn d (j + 1) (by omega)
    have hj' : j < ks.length := by omega
    have hw := wrap_up j (by omega)
    by_cases h : xs[i].f0 = ks[j]
    · refine Ev.step (f := fun k => (barrowlaw02_plays.f k xs[i].f0 xs[i].f1 xs[i].f2 xs[i].f3 xs[i].f4).bind fun t => if t = true then barrowlaw02_only.l1 k xs ks i ((j + 1 : Nat) : Int) else some false) (fun k => ?_)
        (Ev.bind (hp (by rw [h]; exact List.getElem_mem hj')) (Ev.congr (fun k => if_pos rfl) ih))
      rw [barrowlaw02_only.l1, if_pos (by clear hw; omega), if_pos (by clear hw; omega), if_pos (by clear hw; omega), if_pos (by clear hw; omega), rd_at xs i hi, rdi_at ks j hj', if_pos h, hw]
    · refine Ev.step (f := fun k => barrowlaw02_only.l1 k xs ks i ((j + 1 : Nat) : Int)) (fun k => ?_) ih
      rw [barrowlaw02_only.l1, if_pos (by clear hw; omega), if_pos (by clear hw; omega), if_pos (by clear hw; omega), if_pos (by clear hw; omega), rd_at xs i hi, rdi_at ks j hj', if_neg h, hw]
theorem only_l0 (xs : List S35) (ks : List Int) (hx : xs.length ≤ 1152921504606846976) (hk : ks.length ≤ 100) (hp : ∀ x ∈ xs, x.f0 ∈ ks → PlayOk x) : ∀ (d i : Nat), i + d = xs.length → Ev (fun k => barrowlaw02_only.l0 k xs ks i) true
  | 0, i, hi => Ev.step (f := fun _ => some true) (fun k => by rw [barrowlaw02_only.l0, if_neg (by omega)]) (Ev.now true)
  | d + 1, i, hi => by
    have ih := only_l0 xs ks hx hk hp d (i + 1) (by omega)
    have := only_l1 xs ks hx hk i (by omega) (hp _ (List.getElem_mem _)) ih ks.length 0 (by omega)
    exact Ev.step (f := fun k => barrowlaw02_only.l1 k xs ks i ((0 : Nat) : Int)) (fun k => by rw [barrowlaw02_only.l0, if_pos (by omega)]; rfl) this
theorem only_ev (xs : List S35) (ks : List Int) (hx : xs.length ≤ 1152921504606846976) (hk : ks.length ≤ 100) (hp : ∀ x ∈ xs, x.f0 ∈ ks → PlayOk x) : Ev (fun k => barrowlaw02_only.f k xs ks) true := by
  have := only_l0 xs ks hx hk hp xs.length 0 (by omega)
  exact this
end Go.Proofs.YtmicghhmbojkfaaGreatDoor.Fr

/- GoodsMatches: every Match of a script of calls is as the reference has it. For every script; no condition. -/
namespace Go.Proofs.YtmicghhmbojkfaaGreatDoor.PL
open Go.RowKit Go.Proofs.YtmicghhmbojkfaaGreatDoor.G Go.Proofs.YtmicghhmbojkfaaGreatDoor.Fr Go.Proofs.YtmicghhmbojkfaaGreatDoorW.PrintWords Go.Proofs.YtmicghhmbojkfaaGreatDoorW.PrintLast
theorem match_same (a b : ByteArray) : Ev (fun k => barrowlaw02_match.f k a b) true := by
  refine ⟨6000, fun k hk => ?_⟩
  show barrowlaw02_match.f k a b = some true
  have e : ∀ (x : Bool) (y : Int), barrowlaw02_isBool.f x y x y = some true := fun x y => by unfold barrowlaw02_isBool.f; rw [if_pos (by simp)]; simp
  unfold barrowlaw02_match.f
  rw [PM.match_eq _ _ k (by omega), PM.rmatch_eq _ _ k (by omega), Option.bind_some, Option.bind_some, e]; rfl
theorem GoodsMatches (l : List S35) (hl : l.length ≤ 140737488351232) (_hok : ∀ x ∈ l, OpOk x) : ∃ k, barrowlaw02_GoodsMatches.f k l = some true := by
  have h0 : Ev (fun k => goods_Match.f k (⟨#[65, 42, 45, 35, 35]⟩ : ByteArray) (⟨#[65, 88, 45, 49, 50]⟩ : ByteArray)) (true, 0) := by
    have n1 : PM.matchL [65, 42, 45, 35, 35] [65, 88, 45, 49, 50] = (true, 0) := by decide +kernel
    exact ⟨6000, fun k hk => (PM.match_eq _ _ k (by omega)).trans (congrArg some n1)⟩
  have h1 := only_ev l [6, 12] (by omega) (by decide) (fun x _ hk => by
    simp only [List.mem_cons, List.not_mem_nil, or_false] at hk
    exact plays_of x (fun h => by omega) (fun h => by omega) (fun _ => match_same _ _) (fun _ => match_same _ _) (fun h => by omega) (fun h => by omega))
  refine Ev.rounds (r := true) ?_
  unfold barrowlaw02_GoodsMatches.f
  exact Ev.bind h0 (Ev.congr (fun k => if_pos rfl) (Ev.congr (fun k => if_pos rfl) (Ev.bind h1 (Ev.now true))))
end Go.Proofs.YtmicghhmbojkfaaGreatDoor.PL

/- From a row's reading to a list of steps: what the printed walks want of a slice of steps that came in. -/
namespace Go.Proofs.YtmicghhmbojkfaaGreatDoor.Br
open Go.ChangeShapes Go.WideShapes Go.Deep Go.RowKit
open Go.Proofs.YtmicghhmbojkfaaGreatDoor.G Go.Proofs.YtmicghhmbojkfaaGreatDoorW.PrintWords Go.Proofs.YtmicghhmbojkfaaGreatDoorW.PrintLast Go.Proofs.YtmicghhmbojkfaaGreatDoorW.PrintMore
open Go.Proofs.YtmicghhmbojkfaaGreatDoor.Fr (OpOk)
set_option linter.unusedVariables false
section
variable {H : Type} {enc : TypeId × Value → H} {P : Program} {w : World} {base : Nat} {spare : Nat → Bool} {held : Bool}
theorem open_slice_fields {t e : TypeId} {fs : Array Field} {fuel : Nat} {cs : List Value} {x : DataW H × List MemPlace} (ht : P.underlying t = some (.slice e)) (he : P.underlying e = some (.struct fs))
    (hone : oneCellFields P fs = true) (hC : P.cellsOf e = fs.size) (h : DataW.trod enc P w base spare held fuel t cs = some x) :
    (cs = [.slice none 0 0] ∧ x = (.nil, [])) ∨
    ∃ (a : Addr) (len cap m : Nat) (D : Nat → DataW H) (Pl : Nat → List MemPlace), cs = [.slice (some a) len cap] ∧ base ≤ a.block ∧ len ≤ cap ∧ cap ≤ maxLen ∧ m = (if spare a.block then cap else len) ∧
      x = (.slice ((List.range len).map D) ((List.range (m - len)).map fun j => D (len + j)), MemPlace.row a (m * fs.size) ++ (List.range m).flatMap Pl) ∧
      ∀ i, i < m → ∃ (ys : List (DataW H × List MemPlace)) (n : Nat), D i = .agg (ys.map (·.1)) ∧ Pl i = ys.flatMap (·.2) ∧ ys.length = fs.size ∧
        ∀ (j : Nat) (f : Field), fs[j]? = some f → ∃ (v : Value) (y : DataW H × List MemPlace), w.cell? (a.add (i * fs.size + j)) = some v ∧ ys[j]? = some y ∧ DataW.trod enc P w base spare held n f.type [v] = some y := by
  rcases open_slice ht h with h0 | ⟨a, len, cap, m, n, D, Pl, hcs, hb, hl, hm, hmm, hx, hi⟩
  · exact .inl h0
  · refine .inr ⟨a, len, cap, m, D, Pl, hcs, hb, hl, hm, hmm, by rw [hC] at hx; exact hx, fun i him => ?_⟩
    obtain ⟨cs', hc, ht'⟩ := hi i him
    rw [hC] at hc
    obtain ⟨ys, n', hn', hy, hlen, hyl, hf⟩ := DataW.trod_struct he ht'
    obtain ⟨_, hcl, hat⟩ := World.cells?_some hc
    simp only [Prod.mk.injEq] at hy
    refine ⟨ys, n', hy.1, hy.2, hyl, fun j f hj => ?_⟩
    obtain ⟨ho, hk⟩ := hone_of hone j f hj
    have hjl : j < fs.size := (Array.getElem?_eq_some_iff.1 hj).1
    have hcell := hat j hjl
    have hv : cs'[j]? = some (cs'[j]'(by omega)) := List.getElem?_eq_getElem (by omega)
    have h1 := hf j f hj
    rw [ho, hk] at h1
    have hone' : (cs'.drop j).take 1 = [cs'[j]'(by omega)] := by
      rw [List.drop_eq_getElem_cons (by omega)]
      rfl
    rw [hone'] at h1
    have hys : ys[j]? = some (ys[j]'(by omega)) := List.getElem?_eq_getElem (by omega)
    refine ⟨_, _, ?_, hys, h1.trans hys⟩
    rw [← Go.Deep.add_add, hcell, hv]
end
/-- What a reading's datum holds of a list of numbers. -/
def DatI {H : Type} (d : DataW H) (l : List Int) : Prop := (l = [] ∧ d = .nil) ∨ ∃ elems spare, d = .slice elems spare ∧ elems.length = l.length
/-- What a reading's datum holds of a step. -/
def DatX {H : Type} (d : DataW H) (x : S35) : Prop :=
  ∃ dL, d = .agg [.lit (.int .i64 x.f0), .lit (.string x.f1.data.toList), .lit (.string x.f2.data.toList), .lit (.int .i64 x.f3), dL] ∧ DatI dL x.f4 ∧ (Lit.int .i64 x.f3).wf = true ∧ ∀ c ∈ x.f4, (Lit.int .i64 c).wf = true
def DatO {H : Type} (d : DataW H) (l : List S35) : Prop :=
  (l = [] ∧ d = .nil) ∨ ∃ (n : Nat) (D : Nat → DataW H) (R : Nat → S35) (spare : List (DataW H)), d = .slice ((List.range n).map D) spare ∧ l = (List.range n).map R ∧ ∀ i, i < n → DatX (D i) (R i)
theorem open_nums {H : Type} {enc : TypeId × Value → H} {W : World} {fuel : Nat} {v : Value} {y : DataW H × List MemPlace} (h : DataW.trod enc Tryz.prog W 0 (fun _ => true) true fuel 28 [v] = some y) :
    ∃ (A : Option Addr) (c : Nat) (l : List Int), v = .slice A l.length c ∧ l.length ≤ c ∧ Kd.C (Kd.int .i64) W A l.length l ∧ DatI y.1 l ∧ ∀ n ∈ l, (Lit.int .i64 n).wf = true := by
  rcases open_ints Tryz.underlying28 Tryz.underlying3 (by kernel_rfl) h with ⟨hcs, hx⟩ | ⟨x, l, c, zs, hcs, _, hl, hm, hz, hx, hcell, hwz⟩
  · simp only [List.cons.injEq, and_true] at hcs
    subst hcs
    exact ⟨none, 0, [], rfl, Nat.le_refl _, ⟨rfl, Nat.zero_le _, fun h => absurd h (by simp)⟩, .inl ⟨rfl, by rw [hx]⟩, by simp⟩
  · simp only [List.cons.injEq, and_true] at hcs
    subst hcs
    have hz' : zs.length = c := by simpa using hz
    obtain ⟨l1, rfl, hr1, hm1, hw1, hc1⟩ := ReadsInt.ofRowC (a := some x) (len := l) (cap := c) (zs := zs) (w := W) (.inr ⟨x, rfl, hl, hm, hz', hcell, hwz⟩)
    refine ⟨some x, c, l1, rfl, hc1, Kd.C_of_reads (d := (0 : Int)) (h1 := fun _ => rfl) hr1, .inr ⟨_, _, by rw [hx], ?_⟩, hw1⟩
    simp [lits]
    omega
theorem open_ops {H : Type} {enc : TypeId × Value → H} {W : World} {d : DataW H} {p : List MemPlace} {a : Option Addr} {len cap : Nat} {t : TypeId} (ht : Tryz.prog.underlying t = some (.slice 35))
    (h : DataW.Trod enc Tryz.prog W 0 (fun _ => true) true t (.slice a len cap) d p) :
    ∃ l : List S35, l.length = len ∧ l.length ≤ cap ∧ l.length ≤ maxLen ∧ Kd.C k35 W a l.length l ∧ DatO d l := by
  obtain ⟨fuel, hf⟩ := h
  rcases open_slice_fields ht Tryz.underlying35 (by kernel_rfl) (by kernel_rfl) hf with ⟨hcs, hx⟩ | ⟨x, l, c, m, D, Pl, hcs, _, hl, hm, hmm, hx, hi⟩
  · simp only [Value.cells, List.cons.injEq, Value.slice.injEq, and_true] at hcs
    obtain ⟨rfl, rfl, rfl⟩ := hcs
    simp only [Prod.mk.injEq] at hx
    exact ⟨[], rfl, Nat.le_refl _, Nat.zero_le _, ⟨rfl, Nat.zero_le _, fun h => absurd h (by simp)⟩, .inl ⟨rfl, hx.1⟩⟩
  · simp only [Value.cells, List.cons.injEq, Value.slice.injEq, and_true] at hcs
    obtain ⟨rfl, rfl, rfl⟩ := hcs
    simp only [if_true] at hmm
    subst hmm
    have key2 : ∀ i : Nat, ∃ r : S35, i < m → (∃ A4 c4, W.cell? (x.add (i * 5)) = some (.int .i64 r.f0) ∧ W.cell? (x.add (i * 5 + 1)) = some (.string r.f1) ∧ W.cell? (x.add (i * 5 + 2)) = some (.string r.f2) ∧ W.cell? (x.add (i * 5 + 3)) = some (.int .i64 r.f3) ∧
        W.cell? (x.add (i * 5 + 4)) = some (.slice A4 r.f4.length c4) ∧ r.f4.length ≤ c4 ∧ Kd.C (Kd.int .i64) W A4 r.f4.length r.f4) ∧ DatX (D i) r := by
      intro i
      by_cases him : i < m
      · obtain ⟨ys, n, hD, _, hys, hfl⟩ := hi i him
        obtain ⟨v0, y0, hc0, hy0, ht0⟩ := hfl 0 _ rfl
        obtain ⟨v1, y1, hc1, hy1, ht1⟩ := hfl 1 _ rfl
        obtain ⟨v2, y2, hc2, hy2, ht2⟩ := hfl 2 _ rfl
        obtain ⟨v3, y3, hc3, hy3, ht3⟩ := hfl 3 _ rfl
        obtain ⟨v4, y4, hc4, hy4, ht4⟩ := hfl 4 _ rfl
        obtain ⟨n0, hv0, e0, _⟩ := DataW.trod_int (k := .i64) (by kernel_rfl) ht0
        obtain ⟨s1, hv1, e1, _⟩ := DataW.trod_string (by kernel_rfl) ht1
        obtain ⟨s2, hv2, e2, _⟩ := DataW.trod_string (by kernel_rfl) ht2
        obtain ⟨n3, hv3, e3, w3⟩ := DataW.trod_int (k := .i64) (by kernel_rfl) ht3
        obtain ⟨A4, c4, l4, hv4, hl4, hC4, hD4, hw4⟩ := open_nums ht4
        simp only [List.cons.injEq, and_true] at hv0 hv1 hv2 hv3
        subst hv0; subst hv1; subst hv2; subst hv3; subst hv4
        refine ⟨⟨n0, s1, s2, n3, l4⟩, fun _ => ⟨⟨A4, c4, hc0, hc1, hc2, hc3, hc4, hl4, hC4⟩, y4.1, ?_, hD4, w3, hw4⟩⟩
        rw [hD]
        have hlen : ys.length = 5 := hys
        match ys, hlen, hy0, hy1, hy2, hy3, hy4 with
        | [z0, z1, z2, z3, z4], _, hy0, hy1, hy2, hy3, hy4 =>
          simp only [List.getElem?_cons_zero, List.getElem?_cons_succ, Option.some.injEq] at hy0 hy1 hy2 hy3 hy4
          subst hy0; subst hy1; subst hy2; subst hy3; subst hy4
          rw [e0, e1, e2, e3]
          rfl
      · exact ⟨z35, fun h => absurd h him⟩
    obtain ⟨R, hR⟩ := Classical.axiomOfChoice key2
    have hlen : ((List.range len).map R).length = len := by simp
    simp only [Prod.mk.injEq] at hx
    refine ⟨(List.range len).map R, hlen, by rw [hlen]; exact hl, by rw [hlen]; omega, ?_, .inr ⟨len, D, R, _, hx.1, rfl, fun i hil => (hR i (by omega)).2⟩⟩
    refine ⟨rfl, by rw [hlen]; have : maxLen = 9223372036854775807 := rfl; omega, fun _ => ⟨x, rfl, fun j q hj => ?_⟩⟩
    rw [List.getElem?_map] at hj
    rcases Nat.lt_or_ge j len with h1 | h1
    · rw [List.getElem?_range h1] at hj
      simp only [Option.map_some, Option.some.injEq] at hj
      subst hj
      obtain ⟨⟨A4, c4, hc0, hc1, hc2, hc3, hc4, hl4, hC4⟩, _⟩ := hR j (by omega)
      refine ⟨_, rfl, k35_mk W (R j) hl4 hC4, fun i u hu => ?_⟩
      match i with
      | 0 => simp only [List.getElem?_cons_zero, Option.some.injEq] at hu; subst hu; exact hc0
      | 1 => simp only [List.getElem?_cons_succ, List.getElem?_cons_zero, Option.some.injEq] at hu; subst hu; exact hc1
      | 2 => simp only [List.getElem?_cons_succ, List.getElem?_cons_zero, Option.some.injEq] at hu; subst hu; exact hc2
      | 3 => simp only [List.getElem?_cons_succ, List.getElem?_cons_zero, Option.some.injEq] at hu; subst hu; exact hc3
      | 4 => simp only [List.getElem?_cons_succ, List.getElem?_cons_zero, Option.some.injEq] at hu; subst hu; exact hc4
      | n + 5 => simp at hu
    · rw [List.getElem?_eq_none (by simp; omega)] at hj
      simp at hj
theorem all_weight {H : Type} {P : Program} {e : TypeId} {elems : List (DataW H)} {d : DataW H} {v : Nat} (hd : d ∈ elems) (hv : v ∈ DataW.weights P e d) : v ∈ DataW.weightsAll P e elems := by
  induction elems with
  | nil => cases hd
  | cons x t ih =>
    unfold DataW.weightsAll
    rcases List.mem_cons.1 hd with h | h
    · subst h; exact List.mem_append_left _ hv
    · exact List.mem_append_right _ (ih h)
theorem ops_ok {H : Type} {d : DataW H} {l : List S35} {ts : List TypeId} {ds : List (DataW H)} {t : TypeId} (ht : Tryz.prog.underlying t = some (.slice 35)) (hD : DatO d l) (hsz : (DataW.weightsEach Tryz.prog ts ds).all (· ≤ reachBytes) = true)
    {j : Nat} (hj : ts[j]? = some t) (hd : ds[j]? = some d) : ∀ x ∈ l, OpOk x := by
  rcases hD with ⟨rfl, _⟩ | ⟨n, D, R, spare, rfl, rfl, hX⟩
  · simp
  · intro x hx
    obtain ⟨i, hi, rfl⟩ := List.mem_map.1 hx
    have hin : i < n := List.mem_range.1 hi
    obtain ⟨dL, hDi, hI, w3, w4⟩ := hX i hin
    have up : ∀ v, v ∈ DataW.weights Tryz.prog 35 (D i) → v ≤ 140737488351232 := by
      intro v hv
      have z := List.all_eq_true.1 hsz v (DataW.weights_mem_each hj hd v (by
        simp only [DataW.weights, ht]
        exact List.mem_cons_of_mem _ (List.mem_append_left _ (all_weight (List.mem_map.2 ⟨i, hi, rfl⟩) hv))))
      exact of_decide_eq_true z
    rw [hDi] at up
    have b3 := bounds_i64 w3
    refine ⟨?_, ?_, by omega, fun c hc => by have := bounds_i64 (w4 c hc); omega, ?_⟩
    · have := up (R i).f1.data.toList.length (by simp [DataW.weights, DataW.weightsEach, Tryz.underlying35])
      rw [Array.length_toList] at this
      exact this
    · have := up (R i).f2.data.toList.length (by simp [DataW.weights, DataW.weightsEach, Tryz.underlying35])
      rw [Array.length_toList] at this
      exact this
    · rcases hI with ⟨h0, _⟩ | ⟨elems, sp, rfl, hlen⟩
      · rw [h0]; simp
      · have := up ((elems.length + sp.length) * Tryz.prog.bytesOf 3) (by simp [DataW.weights, DataW.weightsEach, Tryz.underlying35, Tryz.underlying28])
        have hb : Tryz.prog.bytesOf 3 = 8 := by kernel_rfl
        rw [hb] at this
        omega
theorem ops_len {H : Type} {d : DataW H} {l : List S35} {ts : List TypeId} {ds : List (DataW H)} {t : TypeId} (ht : Tryz.prog.underlying t = some (.slice 35)) (hD : DatO d l) (hsz : (DataW.weightsEach Tryz.prog ts ds).all (· ≤ reachBytes) = true)
    {j : Nat} (hj : ts[j]? = some t) (hd : ds[j]? = some d) : l.length ≤ 140737488351232 := by
  rcases hD with ⟨rfl, _⟩ | ⟨n, D, R, spare, rfl, rfl, hX⟩
  · simp
  · have z := sized_slice hsz hj hd ht
    have hb : Tryz.prog.bytesOf 35 = 72 := by kernel_rfl
    have hr : reachBytes = 140737488351232 := by kernel_rfl
    rw [hb, hr] at z
    simp only [List.length_map, List.length_range] at z ⊢
    omega
theorem part_le {H : Type} {d : DataW H} {l : List (DataW H)} (h : d ∈ l) : Rows.uptoBulk d ≤ Rows.uptoBulkAll l := by
  induction l with
  | nil => cases h
  | cons x r ih =>
    simp only [Rows.uptoBulkAll]
    cases List.mem_cons.1 h with
    | inl e => subst e; omega
    | inr e => have := ih e; omega
theorem bulk_pos {H : Type} (d : DataW H) : 1 ≤ Rows.uptoBulk d := by
  cases d with
  | lit l => cases l <;> simp [Rows.uptoBulk]
  | nil => simp [Rows.uptoBulk]
  | ptr d => simp [Rows.uptoBulk]
  | slice elems spare => simp [Rows.uptoBulk]
  | agg parts => simp [Rows.uptoBulk]
  | iface t d => simp [Rows.uptoBulk]
  | map entries => simp [Rows.uptoBulk]
  | held h => simp [Rows.uptoBulk]
theorem bulk_len {H : Type} : ∀ l : List (DataW H), l.length ≤ Rows.uptoBulkAll l
  | [] => by simp
  | d :: r => by
    have := bulk_pos d
    have := bulk_len r
    simp only [Rows.uptoBulkAll, List.length_cons]
    omega
/-- Where what is read is small: each step's list is. -/
theorem ops_small {H : Type} {d : DataW H} {l : List S35} {ds : List (DataW H)} (hD : DatO d l) (hk : Rows.uptoSmall H ds = true) (hd : d ∈ ds) : ∀ x ∈ l, x.f4.length ≤ 1048576 := by
  have h : Rows.uptoBulkAll ds ≤ 1048576 := of_decide_eq_true hk
  have h1 := part_le hd
  rcases hD with ⟨rfl, _⟩ | ⟨n, D, R, spare, rfl, rfl, hX⟩
  · simp
  · intro x hx
    obtain ⟨i, hi, rfl⟩ := List.mem_map.1 hx
    obtain ⟨dL, hDi, hI, _, _⟩ := hX i (List.mem_range.1 hi)
    have h2 : Rows.uptoBulk (D i) ≤ Rows.uptoBulkAll ((List.range n).map D) := part_le (List.mem_map.2 ⟨i, hi, rfl⟩)
    rw [hDi] at h2
    simp only [Rows.uptoBulk, Rows.uptoBulkAll] at h1 h2
    rcases hI with ⟨h0, _⟩ | ⟨elems, sp, rfl, hlen⟩
    · rw [h0]; simp
    · have := bulk_len elems
      simp only [Rows.uptoBulk] at h2
      omega
end Go.Proofs.YtmicghhmbojkfaaGreatDoor.Br
