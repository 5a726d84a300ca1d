import Derived.Test.YtmicghhmbojkfaaGreatDoorGx0
import Derived.Test.YtmicghhmbojkfaaGreatDoorKQu0
import Derived.Test.YtmicghhmbojkfaaGreatDoorPqt
import Derived.Test.YtmicghhmbojkfaaGreatDoorRfQ
-- PRINTED by print.py (a twelfth state) out of the translation. Not trusted: Lean checks it.
namespace Go.Proofs.YtmicghhmbojkfaaGreatDoor.G
open Go.RowKit Go.Proofs.YtmicghhmbojkfaaGreatDoorW.PrintWords Go.Proofs.YtmicghhmbojkfaaGreatDoorW.PrintLast Go.Proofs.YtmicghhmbojkfaaGreatDoorW.PrintMore
attribute [local go_sem] max2_int min2_int max_two min_two max_three min_three max_four min_four   -- for this text's walks alone
set_option linter.unusedVariables false
set_option linter.unusedSimpArgs false

/-! ### barrowlaw02_only: function 11 -/
mutual
def barrowlaw02_only.l0 : Nat → List (S35) → List Int → Int → Option (Bool)
 | 0, _, _, _ => none
 | k + 1, x0, x1, x5 => if x5 < (x0.length : Int) then (barrowlaw02_only.l1 k x0 x1 x5 0) else (some true)
def barrowlaw02_only.l1 : Nat → List (S35) → List Int → Int → Int → Option (Bool)
 | 0, _, _, _, _ => none
 | k + 1, x0, x1, x5, x6 => if x6 < (x1.length : Int) then (if 0 ≤ x5 then (if x5 < (x0.length : Int) then (if 0 ≤ x6 then (if ((rd_T35 x0 x5).f0) = (rd x1 x6) then ((barrowlaw02_plays.f k ((rd_T35 x0 x5).f0) ((rd_T35 x0 x5).f1) ((rd_T35 x0 x5).f2) ((rd_T35 x0 x5).f3) ((rd_T35 x0 x5).f4)).bind fun t295 => (if t295 = true then (barrowlaw02_only.l1 k x0 x1 x5 (wrap64 (x6 + 1))) else (some false))) else (barrowlaw02_only.l1 k x0 x1 x5 (wrap64 (x6 + 1)))) else (none)) else (none)) else (none)) else (barrowlaw02_only.l0 k x0 x1 (wrap64 (x5 + 1)))
end
def barrowlaw02_only.f (k : Nat) (l0 : List (S35)) (l1 : List Int) : Option (Bool) := barrowlaw02_only.l0 k l0 l1 0
theorem barrowlaw02_only.mono_l : ∀ k, (∀ y0 y1 y2, LeO (barrowlaw02_only.l0 k y0 y1 y2) (barrowlaw02_only.l0 (k + 1) y0 y1 y2)) ∧ (∀ y0 y1 y2 y3, LeO (barrowlaw02_only.l1 k y0 y1 y2 y3) (barrowlaw02_only.l1 (k + 1) y0 y1 y2 y3))
 | 0 => ⟨fun _ _ _ r h => by simp [barrowlaw02_only.l0] at h, fun _ _ _ _ r h => by simp [barrowlaw02_only.l1] at h⟩
 | k + 1 => by
  obtain ⟨ih0, ih1⟩ := barrowlaw02_only.mono_l k
  refine ⟨?_, ?_⟩
  ·intro y0 y1 y2
   unfold barrowlaw02_only.l0
   repeat' first
   | (with_reducible exact ih0 _ _ _)
   | (with_reducible exact ih1 _ _ _ _)
   | (with_reducible exact barrowlaw02_plays.mono _ _ _ _ _ _)
   | (with_reducible exact LeO.refl _)
   | (with_reducible exact LeO.none _)
   | (with_reducible refine LeO.ite ?_ ?_)
   | (with_reducible refine LeO.bind ?_ (fun _ => ?_))
   | exact ih0 _ _ _
   | exact ih1 _ _ _ _
   | exact barrowlaw02_plays.mono _ _ _ _ _ _
   | exact LeO.none _
   | refine LeO.ite ?_ ?_
   | refine LeO.bind ?_ (fun _ => ?_)
  ·intro y0 y1 y2 y3
   unfold barrowlaw02_only.l1
   repeat' first
   | (with_reducible exact ih0 _ _ _)
   | (with_reducible exact ih1 _ _ _ _)
   | (with_reducible exact barrowlaw02_plays.mono _ _ _ _ _ _)
   | (with_reducible exact LeO.refl _)
   | (with_reducible exact LeO.none _)
   | (with_reducible refine LeO.ite ?_ ?_)
   | (with_reducible refine LeO.bind ?_ (fun _ => ?_))
   | exact ih0 _ _ _
   | exact ih1 _ _ _ _
   | exact barrowlaw02_plays.mono _ _ _ _ _ _
   | exact LeO.none _
   | refine LeO.ite ?_ ?_
   | refine LeO.bind ?_ (fun _ => ?_)
theorem barrowlaw02_only.mono : ∀ a0 a1 k, LeO (barrowlaw02_only.f k a0 a1) (barrowlaw02_only.f (k + 1) a0 a1) := by
 intro a0 a1 k
 obtain ⟨ih0, ih1⟩ := barrowlaw02_only.mono_l k
 unfold barrowlaw02_only.f
 repeat' first
   | (with_reducible exact ih0 _ _ _)
   | (with_reducible exact ih1 _ _ _ _)
   | (with_reducible exact barrowlaw02_plays.mono _ _ _ _ _ _)
   | (with_reducible exact LeO.refl _)
   | (with_reducible exact LeO.none _)
   | (with_reducible refine LeO.ite ?_ ?_)
   | (with_reducible refine LeO.bind ?_ (fun _ => ?_))
   | exact ih0 _ _ _
   | exact ih1 _ _ _ _
   | exact barrowlaw02_plays.mono _ _ _ _ _ _
   | exact LeO.none _
   | refine LeO.ite ?_ ?_
   | refine LeO.bind ?_ (fun _ => ?_)
def barrowlaw02_only.T7 : Bool × List (List Nat × List Nat) := (true, [([], []), ([], []), ([0, 1], [0, 1]), ([2], [2]), ([3], [3]), ([], []), ([], []), ([5, 6], [5, 6]), ([7], [7]), ([4, 8], [4, 8]), ([9], [9]), ([10], [10]), ([10], [10]), ([11, 12, 10], [10, 11, 12]), ([13, 10], [10, 13]), ([14, 10, 10], [10, 14]), ([15, 10], [10, 15]), ([10, 16], [10, 16])])
def barrowlaw02_only.B7 : List Nat := [0, 0, 3, 7, 15, 0, 0, 96, 224, 511, 1023, 2047, 2047, 8191, 16383, 32767, 65535, 131071]
theorem barrowlaw02_only.tab7 : rtab .any (opsOf Tryz.f11 7) = barrowlaw02_only.T7 := by kernel_rfl
theorem barrowlaw02_only.bits7 : waitsOk barrowlaw02_only.T7.2 barrowlaw02_only.B7 = true := by kernel_rfl
set_option maxHeartbeats 8000000 in
set_option maxRecDepth 100000 in
theorem barrowlaw02_only.calls (k : Nat) (A0 : Option Addr) (c0 : Nat) (l0 : List (S35)) (A1 : Option Addr) (c1 : Nat) (l1 : List Int) (r : Bool) (w : World) (hTab : Aside0 (Tab w)) (hr0 : Kd.C k35 w A0 l0.length l0) (hc0 : l0.length ≤ c0) (hr1 : Kd.C (Kd.int .i64) w A1 l1.length l1) (hc1 : l1.length ≤ c1) (h : barrowlaw02_only.f k l0 l1 = some r) :
  Calls Tryz.prog 11 #[.slice A0 l0.length c0, .slice A1 l1.length c1] w fun e w' => e = .returned (.bool r) ∧ Below w.heap.size w w' := by
 have hu35 := Tryz.underlying35
 have HR0 := Aside0.mk hr0
 have HC0 := Aside0.mk hc0
 clear hr0 hc0
 have HR1 := Aside0.mk hr1
 have HC1 := Aside0.mk hc1
 clear hr1 hc1
 have HB := Aside0.mk (Below.refl w.heap.size w)
 have H : (barrowlaw02_only.l0 k l0 l1 0) = some r := h
 clear h
 have H' := Aside0.mk H
 clear H
 go_enter Tryz.func11, Tryz.ntmps11
 go_wp2
 go_loopg [5] k (fun kq v5 w' => ∃ (x5_1 : Int), v5 = .int .i64 x5_1 ∧ Aside0 (barrowlaw02_only.l0 kq l0 l1 x5_1 = some r) ∧ Aside0 (kq ≤ k) ∧ Aside0 (Below w.heap.size w w'))
 case atStart => exact ⟨(0), (by first | rfl | (simp; done) | (simp [*]; done)), H', ⟨Nat.le_refl _⟩, ⟨by repeat (first | (with_reducible first | exact HB.out | apply below_alloc | apply pw_below_drewN | apply below_drew1) | exact HB.out)⟩⟩
 case round =>
  clear H'
  try clear c1
  try clear p2
  obtain ⟨x5_1, rfl, HA, HK1, HB⟩ := hrel
  cases gk with
  | zero => exact absurd HA.out (by simp [barrowlaw02_only.l0])
  | succ k1 =>
   have H := HA.out
   clear HA
   simp only [barrowlaw02_only.l0] at H
   by_cases c3 : x5_1 < (l0.length : Int)
   ·rw [if_pos c3] at H
    have c3b0 : decide (x5_1 < (l0.length : Int)) = true := decide_eq_true c3
    clear c3
    have H' := Aside0.mk H
    clear H
    go_wp2
    go_loopg [6] k1 (fun kq v6 w' => ∃ (x6_2 : Int), v6 = .int .i64 x6_2 ∧ Aside0 (barrowlaw02_only.l1 kq l0 l1 x5_1 x6_2 = some r) ∧ Aside0 (kq ≤ k1) ∧ Aside0 (Below w.heap.size w w'))
    case atStart => exact ⟨(0), (by first | rfl | (simp; done) | (simp [*]; done)), H', ⟨Nat.le_refl _⟩, ⟨by repeat (first | (with_reducible first | exact HB.out | apply below_alloc | apply pw_below_drewN | apply below_drew1) | exact HB.out)⟩⟩
    case round =>
     clear H'
     try clear c1
     try clear p2
     try clear c3
     try clear c3b0
     try clear p2
     obtain ⟨x6_2, rfl, HA, HK2, HB⟩ := hrel
     cases gk with
     | zero => exact absurd HA.out (by simp [barrowlaw02_only.l1])
     | succ k2 =>
      have H := HA.out
      clear HA
      simp only [barrowlaw02_only.l1] at H
      by_cases c4 : x6_2 < (l1.length : Int)
      ·rw [if_pos c4] at H
       have c4b0 : decide (x6_2 < (l1.length : Int)) = true := decide_eq_true c4
       clear c4
       by_cases c5 : 0 ≤ x5_1
       ·rw [if_pos c5] at H
        have c5b0 : decide (0 ≤ x5_1) = true := decide_eq_true c5
        clear c5
        by_cases c6 : x5_1 < (l0.length : Int)
        ·rw [if_pos c6] at H
         have c6b0 : decide (x5_1 < (l0.length : Int)) = true := decide_eq_true c6
         clear c6
         by_cases c7 : 0 ≤ x6_2
         ·rw [if_pos c7] at H
          have c7b0 : decide (0 ≤ x6_2) = true := decide_eq_true c7
          clear c7
          by_cases c8 : ((rd_T35 l0 x5_1).f0) = (rd l1 x6_2)
          ·rw [if_pos c8] at H
           have c8b0 : (((rd_T35 l0 x5_1).f0) == (rd l1 x6_2)) = true := beq_iff_eq.mpr c8
           have c8b1 : (((rd_T35 l0 x5_1).f0) != (rd l1 x6_2)) = false := bne_eq_false_iff_eq.mpr c8
           clear c8
           replace H := Option.bind_eq_some_iff.mp H
           obtain ⟨t295, A90, H⟩ := H
           replace H : (if t295 = true then (barrowlaw02_only.l1 k2 l0 l1 x5_1 (wrap64 (x6_2 + 1))) else (some false)) = some r := H
           have A9 := Aside0.mk A90
           clear A90
           by_cases c10 : t295 = true
           ·subst c10
            have H1 : (barrowlaw02_only.l1 k2 l0 l1 x5_1 (wrap64 (x6_2 + 1))) = some r := by rw [if_pos rfl] at H; exact H
            clear H
            have H := H1
            clear H1
            have H' := Aside0.mk H
            clear H
            try go_wp2
            have n0_ := Aside0.mk (below_drew1 HB.out)
            clear HB
            have HB := n0_
            clear n0_
            have p292 : 0 ≤ (x5_1 : Int) := of_decide_eq_true (by first | (with_reducible assumption) | assumption)
            have q292 : x5_1 < (l0.length : Int) := of_decide_eq_true (by first | (with_reducible assumption) | assumption)
            obtain ⟨ad292, A292_4, c292_4, e292, hx292_0, hx292_1, hx292_2, hx292_3, hx292_4, hl292_4, hi292_4⟩ := at_T35 HR0.out x5_1 p292 q292
            have hw292_4 := hx292_4
            have hw292_3 := hx292_3
            have hw292_2 := hx292_2
            have hw292_1 := hx292_1
            have hw292_0 := hx292_0
            cases e292
            replace hx292_0 := (HB.out.cell (World.block_lt_of_cell? w _ hx292_0)).trans hx292_0
            replace hx292_1 := (HB.out.cell (World.block_lt_of_cell? w _ hx292_1)).trans hx292_1
            replace hx292_2 := (HB.out.cell (World.block_lt_of_cell? w _ hx292_2)).trans hx292_2
            replace hx292_3 := (HB.out.cell (World.block_lt_of_cell? w _ hx292_3)).trans hx292_3
            replace hx292_4 := (HB.out.cell (World.block_lt_of_cell? w _ hx292_4)).trans hx292_4
            have HR292_4 := Aside0.mk hi292_4
            have HC292_4 := Aside0.mk hl292_4
            clear hi292_4 hl292_4
            replace p292 := eq_true p292
            replace q292 := eq_true q292
            have p293 : 0 ≤ (x6_2 : Int) := of_decide_eq_true (by first | (with_reducible assumption) | assumption)
            have q293 : x6_2 < (l1.length : Int) := of_decide_eq_true (by first | (with_reducible assumption) | assumption)
            obtain ⟨ad293, e293, hx293_0⟩ := Kd.at_int HR1.out x6_2 p293 q293
            have hw293_0 := hx293_0
            cases e293
            replace hx293_0 := (HB.out.cell (World.block_lt_of_cell? w _ hx293_0)).trans hx293_0
            replace p293 := eq_true p293
            replace q293 := eq_true q293
            have p294 : 0 ≤ (x5_1 : Int) := of_decide_eq_true (by first | (with_reducible assumption) | assumption)
            have q294 : x5_1 < (l0.length : Int) := of_decide_eq_true (by first | (with_reducible assumption) | assumption)
            obtain ⟨ad294, A294_4, c294_4, e294, hx294_0, hx294_1, hx294_2, hx294_3, hx294_4, hl294_4, hi294_4⟩ := at_T35 HR0.out x5_1 p294 q294
            have hw294_4 := hx294_4
            have hw294_3 := hx294_3
            have hw294_2 := hx294_2
            have hw294_1 := hx294_1
            have hw294_0 := hx294_0
            obtain rfl : ad292 = ad294 := (by injection e294)
            replace hx294_0 := (HB.out.cell (World.block_lt_of_cell? w _ hx294_0)).trans hx294_0
            replace hx294_1 := (HB.out.cell (World.block_lt_of_cell? w _ hx294_1)).trans hx294_1
            replace hx294_2 := (HB.out.cell (World.block_lt_of_cell? w _ hx294_2)).trans hx294_2
            replace hx294_3 := (HB.out.cell (World.block_lt_of_cell? w _ hx294_3)).trans hx294_3
            replace hx294_4 := (HB.out.cell (World.block_lt_of_cell? w _ hx294_4)).trans hx294_4
            have HR294_4 := Aside0.mk hi294_4
            have HC294_4 := Aside0.mk hl294_4
            clear hi294_4 hl294_4
            replace p294 := eq_true p294
            replace q294 := eq_true q294
            have ea_ := Option.some.inj (hx292_4.symm.trans hx294_4)
            injection ea_ with ea_ en_ ec_
            subst ea_
            subst ec_
            clear en_
            refine start_ (n := 18) (S := fun w' => w'.cell? (ad292.add ((x5_1).toNat * 5)) = some (.int .i64 ((rd_T35 l0 x5_1).f0)) ∧ w'.cell? ⟨(ad292.add ((x5_1).toNat * 5)).block, (ad292.add ((x5_1).toNat * 5)).off + 1, none⟩ = some (.string ((rd_T35 l0 x5_1).f1)) ∧ w'.cell? ⟨(ad292.add ((x5_1).toNat * 5)).block, (ad292.add ((x5_1).toNat * 5)).off + 2, none⟩ = some (.string ((rd_T35 l0 x5_1).f2)) ∧ w'.cell? ⟨(ad292.add ((x5_1).toNat * 5)).block, (ad292.add ((x5_1).toNat * 5)).off + 3, none⟩ = some (.int .i64 ((rd_T35 l0 x5_1).f3)) ∧ w'.cell? ⟨(ad292.add ((x5_1).toNat * 5)).block, (ad292.add ((x5_1).toNat * 5)).off + 4, none⟩ = some (.slice A292_4 ((rd_T35 l0 x5_1).f4).length c292_4) ∧ w'.cell? (ad293.add (x6_2).toNat) = some (.int .i64 (rd l1 x6_2)) ∧ w'.cell? (ad292.add ((x5_1).toNat * 5)) = some (.int .i64 ((rd_T35 l0 x5_1).f0)) ∧ w'.cell? ⟨(ad292.add ((x5_1).toNat * 5)).block, (ad292.add ((x5_1).toNat * 5)).off + 1, none⟩ = some (.string ((rd_T35 l0 x5_1).f1)) ∧ w'.cell? ⟨(ad292.add ((x5_1).toNat * 5)).block, (ad292.add ((x5_1).toNat * 5)).off + 2, none⟩ = some (.string ((rd_T35 l0 x5_1).f2)) ∧ w'.cell? ⟨(ad292.add ((x5_1).toNat * 5)).block, (ad292.add ((x5_1).toNat * 5)).off + 3, none⟩ = some (.int .i64 ((rd_T35 l0 x5_1).f3)) ∧ w'.cell? ⟨(ad292.add ((x5_1).toNat * 5)).block, (ad292.add ((x5_1).toNat * 5)).off + 4, none⟩ = some (.slice A292_4 ((rd_T35 l0 x5_1).f4).length c292_4)) (ds := []) #[false, false, false, false, false, false, false, false, false, false, false, false, false, false, false, false, false, false] (by kernel_rfl) rfl rfl ⟨((HB.out.cell (World.block_lt_of_cell? w _ hw292_0)).trans hw292_0), ((HB.out.cell (World.block_lt_of_cell? w _ hw292_1)).trans hw292_1), ((HB.out.cell (World.block_lt_of_cell? w _ hw292_2)).trans hw292_2), ((HB.out.cell (World.block_lt_of_cell? w _ hw292_3)).trans hw292_3), ((HB.out.cell (World.block_lt_of_cell? w _ hw292_4)).trans hw292_4), ((HB.out.cell (World.block_lt_of_cell? w _ hw293_0)).trans hw293_0), ((HB.out.cell (World.block_lt_of_cell? w _ hw294_0)).trans hw294_0), ((HB.out.cell (World.block_lt_of_cell? w _ hw294_1)).trans hw294_1), ((HB.out.cell (World.block_lt_of_cell? w _ hw294_2)).trans hw294_2), ((HB.out.cell (World.block_lt_of_cell? w _ hw294_3)).trans hw294_3), ((HB.out.cell (World.block_lt_of_cell? w _ hw294_4)).trans hw294_4)⟩ (fun hHeld => ?_); refine with_tabW barrowlaw02_only.tab7 barrowlaw02_only.bits7 (fun HT_ HW_ => ?_)
            generalize wr.drew = w11 at HB HR292_4 HR294_4 hx292_0 hx292_1 hx292_2 hx292_3 hx292_4 hx293_0 hx294_0 hx294_1 hx294_2 hx294_3 hx294_4 hHeld ⊢
            refine pure_ (i := 0) (N := some 19) (v := ?_) (a' := ?_) #[true, false, false, false, false, false, false, false, false, false, false, false, false, false, false, false, false, false] rfl rfl (any_of HT_.out (by kernel_rfl)) (fun _ _ _ h => h) (Or.inl ⟨by rfl, ?_⟩) ?_ ?_
            rotate_left
            ·intro w'
             go_simp
             with_reducible rfl
            rotate_left
            ·simp only [Act.put, List.setIfInBounds_toArray, List.set_cons_zero, List.set_cons_succ, i64_w, i32_w]
             rfl
            refine pure_ (i := 1) (N := some 20) (v := ?_) (a' := ?_) #[true, true, false, false, false, false, false, false, false, false, false, false, false, false, false, false, false, false] rfl rfl (any_of HT_.out (by kernel_rfl)) (fun _ _ _ h => h) (Or.inl ⟨by rfl, ?_⟩) ?_ ?_
            rotate_left
            ·intro w'
             go_simp
             with_reducible rfl
            rotate_left
            ·simp only [Act.put, List.setIfInBounds_toArray, List.set_cons_zero, List.set_cons_succ, i64_w, i32_w]
             rfl
            refine pure_ (i := 2) (N := some 21) (v := ?_) (a' := ?_) #[true, true, true, false, false, false, false, false, false, false, false, false, false, false, false, false, false, false] rfl rfl (any_of HT_.out (by kernel_rfl)) (fun _ _ _ h => h) (Or.inl ⟨by rfl, ?_⟩) ?_ ?_
            rotate_left
            ·intro w'
             go_simp
             with_reducible rfl
            rotate_left
            ·simp only [Act.put, List.setIfInBounds_toArray, List.set_cons_zero, List.set_cons_succ, i64_w, i32_w]
             rfl
            refine pure_ (i := 3) (N := some 22) (v := ?_) (a' := ?_) #[true, true, true, true, false, false, false, false, false, false, false, false, false, false, false, false, false, false] rfl rfl (any_of HT_.out (by kernel_rfl)) (fun _ _ _ h => h) (Or.inl ⟨by rfl, ?_⟩) ?_ ?_
            rotate_left
            ·intro w'
             go_simp
             with_reducible rfl
            rotate_left
            ·simp only [Act.put, List.setIfInBounds_toArray, List.set_cons_zero, List.set_cons_succ, i64_w, i32_w]
             rfl
            refine pure_ (i := 5) (N := some 24) (v := ?_) (a' := ?_) #[true, true, true, true, false, true, false, false, false, false, false, false, false, false, false, false, false, false] rfl rfl (any_of HT_.out (by kernel_rfl)) (fun _ _ _ h => h) (Or.inl ⟨by rfl, ?_⟩) ?_ ?_
            rotate_left
            ·intro w'
             go_simp
             with_reducible rfl
            rotate_left
            ·simp only [Act.put, List.setIfInBounds_toArray, List.set_cons_zero, List.set_cons_succ, i64_w, i32_w]
             rfl
            refine pure_ (i := 6) (N := some 25) (v := ?_) (a' := ?_) #[true, true, true, true, false, true, true, false, false, false, false, false, false, false, false, false, false, false] rfl rfl (any_of HT_.out (by kernel_rfl)) (fun _ _ _ h => h) (Or.inl ⟨by rfl, ?_⟩) ?_ ?_
            rotate_left
            ·intro w'
             go_simp
             with_reducible rfl
            rotate_left
            ·simp only [Act.put, List.setIfInBounds_toArray, List.set_cons_zero, List.set_cons_succ, i64_w, i32_w]
             rfl
            refine pure_ (i := 7) (N := some 26) (v := ?_) (a' := ?_) #[true, true, true, true, false, true, true, true, false, false, false, false, false, false, false, false, false, false] rfl rfl (any_of HT_.out (by kernel_rfl)) (fun _ _ _ h => h) (Or.inl ⟨by rfl, ?_⟩) ?_ ?_
            rotate_left
            ·intro w'
             go_simp
             with_reducible rfl
            rotate_left
            ·simp only [Act.put, List.setIfInBounds_toArray, List.set_cons_zero, List.set_cons_succ, i64_w, i32_w]
             rfl
            refine take_ (i := 4) (N := some 23) (v := ?_) (a' := ?_) #[true, true, true, true, true, true, true, true, false, false, false, false, false, false, false, false, false, false] rfl rfl (take_ofW HT_.out HW_.out (by kernel_rfl)) (fun _ _ _ h => h) (Or.inl ⟨by rfl, ?_⟩) hHeld ?_ ?_
            rotate_left
            ·rintro w' ⟨s0, s1, s2, s3, s4, s5, s6, s7, s8, s9, s10⟩
             go_simp
             with_reducible rfl
            rotate_left
            ·simp only [Act.put, List.setIfInBounds_toArray, List.set_cons_zero, List.set_cons_succ, i64_w, i32_w]
             rfl
            refine take_ (i := 8) (N := some 27) (v := ?_) (a' := ?_) #[true, true, true, true, true, true, true, true, true, false, false, false, false, false, false, false, false, false] rfl rfl (take_ofW HT_.out HW_.out (by kernel_rfl)) (fun _ _ _ h => h) (Or.inl ⟨by rfl, ?_⟩) hHeld ?_ ?_
            rotate_left
            ·rintro w' ⟨s0, s1, s2, s3, s4, s5, s6, s7, s8, s9, s10⟩
             go_simp
             with_reducible rfl
            rotate_left
            ·simp only [Act.put, List.setIfInBounds_toArray, List.set_cons_zero, List.set_cons_succ, i64_w, i32_w]
             rfl
            refine pure_ (i := 9) (N := some 28) (v := ?_) (a' := ?_) #[true, true, true, true, true, true, true, true, true, true, false, false, false, false, false, false, false, false] rfl rfl (any_of HT_.out (by kernel_rfl)) (fun _ _ _ h => h) (Or.inl ⟨by rfl, ?_⟩) ?_ ?_
            rotate_left
            ·intro w'
             go_simp
             with_reducible rfl
            rotate_left
            ·simp only [Act.put, List.setIfInBounds_toArray, List.set_cons_zero, List.set_cons_succ, i64_w, i32_w]
             rfl
            refine pure_ (i := 10) (N := some 29) (v := ?_) (a' := ?_) #[true, true, true, true, true, true, true, true, true, true, true, false, false, false, false, false, false, false] rfl rfl (any_of HT_.out (by kernel_rfl)) (fun _ _ _ h => h) (Or.inl ⟨by rfl, ?_⟩) ?_ ?_
            rotate_left
            ·intro w'
             go_simp
             with_reducible rfl
            rotate_left
            ·simp only [Act.put, List.setIfInBounds_toArray, List.set_cons_zero, List.set_cons_succ, i64_w, i32_w]
             rfl
            refine pure_ (i := 11) (N := some 30) (v := ?_) (a' := ?_) #[true, true, true, true, true, true, true, true, true, true, true, true, false, false, false, false, false, false] rfl rfl (any_of HT_.out (by kernel_rfl)) (fun _ _ _ h => h) (Or.inl ⟨by rfl, ?_⟩) ?_ ?_
            rotate_left
            ·intro w'
             go_simp
             with_reducible rfl
            rotate_left
            ·simp only [Act.put, List.setIfInBounds_toArray, List.set_cons_zero, List.set_cons_succ, i64_w, i32_w]
             rfl
            refine pure_ (i := 12) (N := some 31) (v := ?_) (a' := ?_) #[true, true, true, true, true, true, true, true, true, true, true, true, true, false, false, false, false, false] rfl rfl (any_of HT_.out (by kernel_rfl)) (fun _ _ _ h => h) (Or.inl ⟨by rfl, ?_⟩) ?_ ?_
            rotate_left
            ·intro w'
             go_simp
             with_reducible rfl
            rotate_left
            ·simp only [Act.put, List.setIfInBounds_toArray, List.set_cons_zero, List.set_cons_succ, i64_w, i32_w]
             rfl
            refine pure_ (i := 13) (N := some 32) (v := ?_) (a' := ?_) #[true, true, true, true, true, true, true, true, true, true, true, true, true, true, false, false, false, false] rfl rfl (any_of HT_.out (by kernel_rfl)) (fun _ _ _ h => h) (Or.inl ⟨by rfl, ?_⟩) ?_ ?_
            rotate_left
            ·intro w'
             go_simp
             with_reducible rfl
            rotate_left
            ·simp only [Act.put, List.setIfInBounds_toArray, List.set_cons_zero, List.set_cons_succ, i64_w, i32_w]
             rfl
            refine take_ (i := 14) (N := some 33) (v := ?_) (a' := ?_) #[true, true, true, true, true, true, true, true, true, true, true, true, true, true, true, false, false, false] rfl rfl (take_ofW HT_.out HW_.out (by kernel_rfl)) (fun _ _ _ h => h) (Or.inl ⟨by rfl, ?_⟩) hHeld ?_ ?_
            rotate_left
            ·rintro w' ⟨s0, s1, s2, s3, s4, s5, s6, s7, s8, s9, s10⟩
             go_simp
             with_reducible rfl
            rotate_left
            ·simp only [Act.put, List.setIfInBounds_toArray, List.set_cons_zero, List.set_cons_succ, i64_w, i32_w]
             rfl
            refine one_ (i := 15) (N := some 34) #[true, true, true, true, true, true, true, true, true, true, true, true, true, true, true, true, false, false] rfl rfl (one_of HT_.out (by kernel_rfl)) (by decide) (fun K hK => ?_)
            refine goes_ Tryz.func16 (by kernel_rfl) rfl #[.agg #[.int .i64 ((rd_T35 l0 x5_1).f0), .string ((rd_T35 l0 x5_1).f1), .string ((rd_T35 l0 x5_1).f2), .int .i64 ((rd_T35 l0 x5_1).f3), .slice A292_4 ((rd_T35 l0 x5_1).f4).length c292_4]] (by rfl) rfl rfl (by (try simp only [List.map_toArray, List.map_cons, List.map_nil]); first | done | rfl | (simp only [List.length_drop, List.length_take]; rfl)) ?_
            with_reducible refine (barrowlaw02_plays.calls k2 ((rd_T35 l0 x5_1).f0) ((rd_T35 l0 x5_1).f1) ((rd_T35 l0 x5_1).f2) ((rd_T35 l0 x5_1).f3) _ _ ((rd_T35 l0 x5_1).f4) true _ ?tab1_ ?side1 ?side2 A9.out).mono ?_; (case tab1_ => exact tab_keep hTab (by repeat (first | (with_reducible first | exact HB.out | apply below_alloc | apply pw_below_drewN | apply below_drew1) | exact HB.out)))
            (case side1 => repeat (first | exact (Kd.C_below HR294_4.out HB.out) | (with_reducible refine Kd.C_alloc ?_ _) | (with_reducible refine Kd.C_drewN ?_ _) | (with_reducible refine Kd.C_drew ?_)))
            (case side2 => exact HC294_4.out)
            rintro e w12 ⟨rfl, hb⟩
            refine ⟨_, rfl, ?_⟩
            have n0_ := Aside0.mk (below_step (by repeat (first | (with_reducible first | exact HB.out | apply below_alloc | apply pw_below_drewN | apply below_drew1) | exact HB.out)) hb)
            clear HB
            have HB := n0_
            clear n0_
            (try clear hb)
            (try clear hb2)
            (try clear hk)
            (try clear hi)
            refine hK.out _ _ ⟨((HB.out.cell (World.block_lt_of_cell? w _ hw292_0)).trans hw292_0), ((HB.out.cell (World.block_lt_of_cell? w _ hw292_1)).trans hw292_1), ((HB.out.cell (World.block_lt_of_cell? w _ hw292_2)).trans hw292_2), ((HB.out.cell (World.block_lt_of_cell? w _ hw292_3)).trans hw292_3), ((HB.out.cell (World.block_lt_of_cell? w _ hw292_4)).trans hw292_4), ((HB.out.cell (World.block_lt_of_cell? w _ hw293_0)).trans hw293_0), ((HB.out.cell (World.block_lt_of_cell? w _ hw294_0)).trans hw294_0), ((HB.out.cell (World.block_lt_of_cell? w _ hw294_1)).trans hw294_1), ((HB.out.cell (World.block_lt_of_cell? w _ hw294_2)).trans hw294_2), ((HB.out.cell (World.block_lt_of_cell? w _ hw294_3)).trans hw294_3), ((HB.out.cell (World.block_lt_of_cell? w _ hw294_4)).trans hw294_4)⟩ (fun hHeld => ?_)
            clear hK K
            refine norm_ (a' := ?_) ?_ ?_
            rotate_left
            ·show Act.put _ (some 34) _ = _
             simp only [Act.put, List.setIfInBounds_toArray, List.set_cons_zero, List.set_cons_succ, i64_w, i32_w]
             rfl
            refine pure_ (i := 16) (N := some 35) (v := ?_) (a' := ?_) #[true, true, true, true, true, true, true, true, true, true, true, true, true, true, true, true, true, false] rfl rfl (any_of HT_.out (by kernel_rfl)) (fun _ _ _ h => h) (Or.inl ⟨by rfl, ?_⟩) ?_ ?_
            rotate_left
            ·intro w'
             go_simp
             with_reducible rfl
            rotate_left
            ·simp only [Act.put, List.setIfInBounds_toArray, List.set_cons_zero, List.set_cons_succ, i64_w, i32_w]
             rfl
            refine pure_ (i := 17) (N := some 36) (v := ?_) (a' := ?_) #[true, true, true, true, true, true, true, true, true, true, true, true, true, true, true, true, true, true] rfl rfl (any_of HT_.out (by kernel_rfl)) (fun _ _ _ h => h) (Or.inl ⟨by rfl, ?_⟩) ?_ ?_
            rotate_left
            ·intro w'
             go_simp
             with_reducible rfl
            rotate_left
            ·simp only [Act.put, List.setIfInBounds_toArray, List.set_cons_zero, List.set_cons_succ, i64_w, i32_w]
             rfl
            refine done_ (done_of HT_.out (by kernel_rfl)) ?_
            try go_wp2
            go_roundg k2
            case measure => have := HK1.out; have := HK2.out; omega
            case rel => exact ⟨(wrap64 (x6_2 + 1)), (by first | rfl | (simp; done) | (simp [*]; done)), H', ⟨by have := HK1.out; have := HK2.out; omega⟩, ⟨by repeat (first | (with_reducible first | exact HB.out | apply below_alloc | apply pw_below_drewN | apply below_drew1) | exact HB.out)⟩⟩
           ·replace c10 := Bool.eq_false_iff.mpr c10
            subst c10
            have H1 : (some false) = some r := by rw [if_neg (show ¬ (false = true) by decide)] at H; exact H
            clear H
            have H := H1
            clear H1
            obtain rfl := Option.some.inj H
            try go_wp2
            have n0_ := Aside0.mk (below_drew1 HB.out)
            clear HB
            have HB := n0_
            clear n0_
            have p292 : 0 ≤ (x5_1 : Int) := of_decide_eq_true (by first | (with_reducible assumption) | assumption)
            have q292 : x5_1 < (l0.length : Int) := of_decide_eq_true (by first | (with_reducible assumption) | assumption)
            obtain ⟨ad292, A292_4, c292_4, e292, hx292_0, hx292_1, hx292_2, hx292_3, hx292_4, hl292_4, hi292_4⟩ := at_T35 HR0.out x5_1 p292 q292
            have hw292_4 := hx292_4
            have hw292_3 := hx292_3
            have hw292_2 := hx292_2
            have hw292_1 := hx292_1
            have hw292_0 := hx292_0
            cases e292
            replace hx292_0 := (HB.out.cell (World.block_lt_of_cell? w _ hx292_0)).trans hx292_0
            replace hx292_1 := (HB.out.cell (World.block_lt_of_cell? w _ hx292_1)).trans hx292_1
            replace hx292_2 := (HB.out.cell (World.block_lt_of_cell? w _ hx292_2)).trans hx292_2
            replace hx292_3 := (HB.out.cell (World.block_lt_of_cell? w _ hx292_3)).trans hx292_3
            replace hx292_4 := (HB.out.cell (World.block_lt_of_cell? w _ hx292_4)).trans hx292_4
            have HR292_4 := Aside0.mk hi292_4
            have HC292_4 := Aside0.mk hl292_4
            clear hi292_4 hl292_4
            replace p292 := eq_true p292
            replace q292 := eq_true q292
            have p293 : 0 ≤ (x6_2 : Int) := of_decide_eq_true (by first | (with_reducible assumption) | assumption)
            have q293 : x6_2 < (l1.length : Int) := of_decide_eq_true (by first | (with_reducible assumption) | assumption)
            obtain ⟨ad293, e293, hx293_0⟩ := Kd.at_int HR1.out x6_2 p293 q293
            have hw293_0 := hx293_0
            cases e293
            replace hx293_0 := (HB.out.cell (World.block_lt_of_cell? w _ hx293_0)).trans hx293_0
            replace p293 := eq_true p293
            replace q293 := eq_true q293
            have p294 : 0 ≤ (x5_1 : Int) := of_decide_eq_true (by first | (with_reducible assumption) | assumption)
            have q294 : x5_1 < (l0.length : Int) := of_decide_eq_true (by first | (with_reducible assumption) | assumption)
            obtain ⟨ad294, A294_4, c294_4, e294, hx294_0, hx294_1, hx294_2, hx294_3, hx294_4, hl294_4, hi294_4⟩ := at_T35 HR0.out x5_1 p294 q294
            have hw294_4 := hx294_4
            have hw294_3 := hx294_3
            have hw294_2 := hx294_2
            have hw294_1 := hx294_1
            have hw294_0 := hx294_0
            obtain rfl : ad292 = ad294 := (by injection e294)
            replace hx294_0 := (HB.out.cell (World.block_lt_of_cell? w _ hx294_0)).trans hx294_0
            replace hx294_1 := (HB.out.cell (World.block_lt_of_cell? w _ hx294_1)).trans hx294_1
            replace hx294_2 := (HB.out.cell (World.block_lt_of_cell? w _ hx294_2)).trans hx294_2
            replace hx294_3 := (HB.out.cell (World.block_lt_of_cell? w _ hx294_3)).trans hx294_3
            replace hx294_4 := (HB.out.cell (World.block_lt_of_cell? w _ hx294_4)).trans hx294_4
            have HR294_4 := Aside0.mk hi294_4
            have HC294_4 := Aside0.mk hl294_4
            clear hi294_4 hl294_4
            replace p294 := eq_true p294
            replace q294 := eq_true q294
            have ea_ := Option.some.inj (hx292_4.symm.trans hx294_4)
            injection ea_ with ea_ en_ ec_
            subst ea_
            subst ec_
            clear en_
            refine start_ (n := 18) (S := fun w' => w'.cell? (ad292.add ((x5_1).toNat * 5)) = some (.int .i64 ((rd_T35 l0 x5_1).f0)) ∧ w'.cell? ⟨(ad292.add ((x5_1).toNat * 5)).block, (ad292.add ((x5_1).toNat * 5)).off + 1, none⟩ = some (.string ((rd_T35 l0 x5_1).f1)) ∧ w'.cell? ⟨(ad292.add ((x5_1).toNat * 5)).block, (ad292.add ((x5_1).toNat * 5)).off + 2, none⟩ = some (.string ((rd_T35 l0 x5_1).f2)) ∧ w'.cell? ⟨(ad292.add ((x5_1).toNat * 5)).block, (ad292.add ((x5_1).toNat * 5)).off + 3, none⟩ = some (.int .i64 ((rd_T35 l0 x5_1).f3)) ∧ w'.cell? ⟨(ad292.add ((x5_1).toNat * 5)).block, (ad292.add ((x5_1).toNat * 5)).off + 4, none⟩ = some (.slice A292_4 ((rd_T35 l0 x5_1).f4).length c292_4) ∧ w'.cell? (ad293.add (x6_2).toNat) = some (.int .i64 (rd l1 x6_2)) ∧ w'.cell? (ad292.add ((x5_1).toNat * 5)) = some (.int .i64 ((rd_T35 l0 x5_1).f0)) ∧ w'.cell? ⟨(ad292.add ((x5_1).toNat * 5)).block, (ad292.add ((x5_1).toNat * 5)).off + 1, none⟩ = some (.string ((rd_T35 l0 x5_1).f1)) ∧ w'.cell? ⟨(ad292.add ((x5_1).toNat * 5)).block, (ad292.add ((x5_1).toNat * 5)).off + 2, none⟩ = some (.string ((rd_T35 l0 x5_1).f2)) ∧ w'.cell? ⟨(ad292.add ((x5_1).toNat * 5)).block, (ad292.add ((x5_1).toNat * 5)).off + 3, none⟩ = some (.int .i64 ((rd_T35 l0 x5_1).f3)) ∧ w'.cell? ⟨(ad292.add ((x5_1).toNat * 5)).block, (ad292.add ((x5_1).toNat * 5)).off + 4, none⟩ = some (.slice A292_4 ((rd_T35 l0 x5_1).f4).length c292_4)) (ds := []) #[false, false, false, false, false, false, false, false, false, false, false, false, false, false, false, false, false, false] (by kernel_rfl) rfl rfl ⟨((HB.out.cell (World.block_lt_of_cell? w _ hw292_0)).trans hw292_0), ((HB.out.cell (World.block_lt_of_cell? w _ hw292_1)).trans hw292_1), ((HB.out.cell (World.block_lt_of_cell? w _ hw292_2)).trans hw292_2), ((HB.out.cell (World.block_lt_of_cell? w _ hw292_3)).trans hw292_3), ((HB.out.cell (World.block_lt_of_cell? w _ hw292_4)).trans hw292_4), ((HB.out.cell (World.block_lt_of_cell? w _ hw293_0)).trans hw293_0), ((HB.out.cell (World.block_lt_of_cell? w _ hw294_0)).trans hw294_0), ((HB.out.cell (World.block_lt_of_cell? w _ hw294_1)).trans hw294_1), ((HB.out.cell (World.block_lt_of_cell? w _ hw294_2)).trans hw294_2), ((HB.out.cell (World.block_lt_of_cell? w _ hw294_3)).trans hw294_3), ((HB.out.cell (World.block_lt_of_cell? w _ hw294_4)).trans hw294_4)⟩ (fun hHeld => ?_); refine with_tabW barrowlaw02_only.tab7 barrowlaw02_only.bits7 (fun HT_ HW_ => ?_)
            generalize wr.drew = w13 at HB HR292_4 HR294_4 hx292_0 hx292_1 hx292_2 hx292_3 hx292_4 hx293_0 hx294_0 hx294_1 hx294_2 hx294_3 hx294_4 hHeld ⊢
            refine pure_ (i := 0) (N := some 19) (v := ?_) (a' := ?_) #[true, false, false, false, false, false, false, false, false, false, false, false, false, false, false, false, false, false] rfl rfl (any_of HT_.out (by kernel_rfl)) (fun _ _ _ h => h) (Or.inl ⟨by rfl, ?_⟩) ?_ ?_
            rotate_left
            ·intro w'
             go_simp
             with_reducible rfl
            rotate_left
            ·simp only [Act.put, List.setIfInBounds_toArray, List.set_cons_zero, List.set_cons_succ, i64_w, i32_w]
             rfl
            refine pure_ (i := 1) (N := some 20) (v := ?_) (a' := ?_) #[true, true, false, false, false, false, false, false, false, false, false, false, false, false, false, false, false, false] rfl rfl (any_of HT_.out (by kernel_rfl)) (fun _ _ _ h => h) (Or.inl ⟨by rfl, ?_⟩) ?_ ?_
            rotate_left
            ·intro w'
             go_simp
             with_reducible rfl
            rotate_left
            ·simp only [Act.put, List.setIfInBounds_toArray, List.set_cons_zero, List.set_cons_succ, i64_w, i32_w]
             rfl
            refine pure_ (i := 2) (N := some 21) (v := ?_) (a' := ?_) #[true, true, true, false, false, false, false, false, false, false, false, false, false, false, false, false, false, false] rfl rfl (any_of HT_.out (by kernel_rfl)) (fun _ _ _ h => h) (Or.inl ⟨by rfl, ?_⟩) ?_ ?_
            rotate_left
            ·intro w'
             go_simp
             with_reducible rfl
            rotate_left
            ·simp only [Act.put, List.setIfInBounds_toArray, List.set_cons_zero, List.set_cons_succ, i64_w, i32_w]
             rfl
            refine pure_ (i := 3) (N := some 22) (v := ?_) (a' := ?_) #[true, true, true, true, false, false, false, false, false, false, false, false, false, false, false, false, false, false] rfl rfl (any_of HT_.out (by kernel_rfl)) (fun _ _ _ h => h) (Or.inl ⟨by rfl, ?_⟩) ?_ ?_
            rotate_left
            ·intro w'
             go_simp
             with_reducible rfl
            rotate_left
            ·simp only [Act.put, List.setIfInBounds_toArray, List.set_cons_zero, List.set_cons_succ, i64_w, i32_w]
             rfl
            refine pure_ (i := 5) (N := some 24) (v := ?_) (a' := ?_) #[true, true, true, true, false, true, false, false, false, false, false, false, false, false, false, false, false, false] rfl rfl (any_of HT_.out (by kernel_rfl)) (fun _ _ _ h => h) (Or.inl ⟨by rfl, ?_⟩) ?_ ?_
            rotate_left
            ·intro w'
             go_simp
             with_reducible rfl
            rotate_left
            ·simp only [Act.put, List.setIfInBounds_toArray, List.set_cons_zero, List.set_cons_succ, i64_w, i32_w]
             rfl
            refine pure_ (i := 6) (N := some 25) (v := ?_) (a' := ?_) #[true, true, true, true, false, true, true, false, false, false, false, false, false, false, false, false, false, false] rfl rfl (any_of HT_.out (by kernel_rfl)) (fun _ _ _ h => h) (Or.inl ⟨by rfl, ?_⟩) ?_ ?_
            rotate_left
            ·intro w'
             go_simp
             with_reducible rfl
            rotate_left
            ·simp only [Act.put, List.setIfInBounds_toArray, List.set_cons_zero, List.set_cons_succ, i64_w, i32_w]
             rfl
            refine pure_ (i := 7) (N := some 26) (v := ?_) (a' := ?_) #[true, true, true, true, false, true, true, true, false, false, false, false, false, false, false, false, false, false] rfl rfl (any_of HT_.out (by kernel_rfl)) (fun _ _ _ h => h) (Or.inl ⟨by rfl, ?_⟩) ?_ ?_
            rotate_left
            ·intro w'
             go_simp
             with_reducible rfl
            rotate_left
            ·simp only [Act.put, List.setIfInBounds_toArray, List.set_cons_zero, List.set_cons_succ, i64_w, i32_w]
             rfl
            refine take_ (i := 4) (N := some 23) (v := ?_) (a' := ?_) #[true, true, true, true, true, true, true, true, false, false, false, false, false, false, false, false, false, false] rfl rfl (take_ofW HT_.out HW_.out (by kernel_rfl)) (fun _ _ _ h => h) (Or.inl ⟨by rfl, ?_⟩) hHeld ?_ ?_
            rotate_left
            ·rintro w' ⟨s0, s1, s2, s3, s4, s5, s6, s7, s8, s9, s10⟩
             go_simp
             with_reducible rfl
            rotate_left
            ·simp only [Act.put, List.setIfInBounds_toArray, List.set_cons_zero, List.set_cons_succ, i64_w, i32_w]
             rfl
            refine take_ (i := 8) (N := some 27) (v := ?_) (a' := ?_) #[true, true, true, true, true, true, true, true, true, false, false, false, false, false, false, false, false, false] rfl rfl (take_ofW HT_.out HW_.out (by kernel_rfl)) (fun _ _ _ h => h) (Or.inl ⟨by rfl, ?_⟩) hHeld ?_ ?_
            rotate_left
            ·rintro w' ⟨s0, s1, s2, s3, s4, s5, s6, s7, s8, s9, s10⟩
             go_simp
             with_reducible rfl
            rotate_left
            ·simp only [Act.put, List.setIfInBounds_toArray, List.set_cons_zero, List.set_cons_succ, i64_w, i32_w]
             rfl
            refine pure_ (i := 9) (N := some 28) (v := ?_) (a' := ?_) #[true, true, true, true, true, true, true, true, true, true, false, false, false, false, false, false, false, false] rfl rfl (any_of HT_.out (by kernel_rfl)) (fun _ _ _ h => h) (Or.inl ⟨by rfl, ?_⟩) ?_ ?_
            rotate_left
            ·intro w'
             go_simp
             with_reducible rfl
            rotate_left
            ·simp only [Act.put, List.setIfInBounds_toArray, List.set_cons_zero, List.set_cons_succ, i64_w, i32_w]
             rfl
            refine pure_ (i := 10) (N := some 29) (v := ?_) (a' := ?_) #[true, true, true, true, true, true, true, true, true, true, true, false, false, false, false, false, false, false] rfl rfl (any_of HT_.out (by kernel_rfl)) (fun _ _ _ h => h) (Or.inl ⟨by rfl, ?_⟩) ?_ ?_
            rotate_left
            ·intro w'
             go_simp
             with_reducible rfl
            rotate_left
            ·simp only [Act.put, List.setIfInBounds_toArray, List.set_cons_zero, List.set_cons_succ, i64_w, i32_w]
             rfl
            refine pure_ (i := 11) (N := some 30) (v := ?_) (a' := ?_) #[true, true, true, true, true, true, true, true, true, true, true, true, false, false, false, false, false, false] rfl rfl (any_of HT_.out (by kernel_rfl)) (fun _ _ _ h => h) (Or.inl ⟨by rfl, ?_⟩) ?_ ?_
            rotate_left
            ·intro w'
             go_simp
             with_reducible rfl
            rotate_left
            ·simp only [Act.put, List.setIfInBounds_toArray, List.set_cons_zero, List.set_cons_succ, i64_w, i32_w]
             rfl
            refine pure_ (i := 12) (N := some 31) (v := ?_) (a' := ?_) #[true, true, true, true, true, true, true, true, true, true, true, true, true, false, false, false, false, false] rfl rfl (any_of HT_.out (by kernel_rfl)) (fun _ _ _ h => h) (Or.inl ⟨by rfl, ?_⟩) ?_ ?_
            rotate_left
            ·intro w'
             go_simp
             with_reducible rfl
            rotate_left
            ·simp only [Act.put, List.setIfInBounds_toArray, List.set_cons_zero, List.set_cons_succ, i64_w, i32_w]
             rfl
            refine pure_ (i := 13) (N := some 32) (v := ?_) (a' := ?_) #[true, true, true, true, true, true, true, true, true, true, true, true, true, true, false, false, false, false] rfl rfl (any_of HT_.out (by kernel_rfl)) (fun _ _ _ h => h) (Or.inl ⟨by rfl, ?_⟩) ?_ ?_
            rotate_left
            ·intro w'
             go_simp
             with_reducible rfl
            rotate_left
            ·simp only [Act.put, List.setIfInBounds_toArray, List.set_cons_zero, List.set_cons_succ, i64_w, i32_w]
             rfl
            refine take_ (i := 14) (N := some 33) (v := ?_) (a' := ?_) #[true, true, true, true, true, true, true, true, true, true, true, true, true, true, true, false, false, false] rfl rfl (take_ofW HT_.out HW_.out (by kernel_rfl)) (fun _ _ _ h => h) (Or.inl ⟨by rfl, ?_⟩) hHeld ?_ ?_
            rotate_left
            ·rintro w' ⟨s0, s1, s2, s3, s4, s5, s6, s7, s8, s9, s10⟩
             go_simp
             with_reducible rfl
            rotate_left
            ·simp only [Act.put, List.setIfInBounds_toArray, List.set_cons_zero, List.set_cons_succ, i64_w, i32_w]
             rfl
            refine one_ (i := 15) (N := some 34) #[true, true, true, true, true, true, true, true, true, true, true, true, true, true, true, true, false, false] rfl rfl (one_of HT_.out (by kernel_rfl)) (by decide) (fun K hK => ?_)
            refine goes_ Tryz.func16 (by kernel_rfl) rfl #[.agg #[.int .i64 ((rd_T35 l0 x5_1).f0), .string ((rd_T35 l0 x5_1).f1), .string ((rd_T35 l0 x5_1).f2), .int .i64 ((rd_T35 l0 x5_1).f3), .slice A292_4 ((rd_T35 l0 x5_1).f4).length c292_4]] (by rfl) rfl rfl (by (try simp only [List.map_toArray, List.map_cons, List.map_nil]); first | done | rfl | (simp only [List.length_drop, List.length_take]; rfl)) ?_
            with_reducible refine (barrowlaw02_plays.calls k2 ((rd_T35 l0 x5_1).f0) ((rd_T35 l0 x5_1).f1) ((rd_T35 l0 x5_1).f2) ((rd_T35 l0 x5_1).f3) _ _ ((rd_T35 l0 x5_1).f4) false _ ?tab1_ ?side1 ?side2 A9.out).mono ?_; (case tab1_ => exact tab_keep hTab (by repeat (first | (with_reducible first | exact HB.out | apply below_alloc | apply pw_below_drewN | apply below_drew1) | exact HB.out)))
            (case side1 => repeat (first | exact (Kd.C_below HR294_4.out HB.out) | (with_reducible refine Kd.C_alloc ?_ _) | (with_reducible refine Kd.C_drewN ?_ _) | (with_reducible refine Kd.C_drew ?_)))
            (case side2 => exact HC294_4.out)
            rintro e w14 ⟨rfl, hb⟩
            refine ⟨_, rfl, ?_⟩
            have n0_ := Aside0.mk (below_step (by repeat (first | (with_reducible first | exact HB.out | apply below_alloc | apply pw_below_drewN | apply below_drew1) | exact HB.out)) hb)
            clear HB
            have HB := n0_
            clear n0_
            (try clear hb)
            (try clear hb2)
            (try clear hk)
            (try clear hi)
            refine hK.out _ _ ⟨((HB.out.cell (World.block_lt_of_cell? w _ hw292_0)).trans hw292_0), ((HB.out.cell (World.block_lt_of_cell? w _ hw292_1)).trans hw292_1), ((HB.out.cell (World.block_lt_of_cell? w _ hw292_2)).trans hw292_2), ((HB.out.cell (World.block_lt_of_cell? w _ hw292_3)).trans hw292_3), ((HB.out.cell (World.block_lt_of_cell? w _ hw292_4)).trans hw292_4), ((HB.out.cell (World.block_lt_of_cell? w _ hw293_0)).trans hw293_0), ((HB.out.cell (World.block_lt_of_cell? w _ hw294_0)).trans hw294_0), ((HB.out.cell (World.block_lt_of_cell? w _ hw294_1)).trans hw294_1), ((HB.out.cell (World.block_lt_of_cell? w _ hw294_2)).trans hw294_2), ((HB.out.cell (World.block_lt_of_cell? w _ hw294_3)).trans hw294_3), ((HB.out.cell (World.block_lt_of_cell? w _ hw294_4)).trans hw294_4)⟩ (fun hHeld => ?_)
            clear hK K
            refine norm_ (a' := ?_) ?_ ?_
            rotate_left
            ·show Act.put _ (some 34) _ = _
             simp only [Act.put, List.setIfInBounds_toArray, List.set_cons_zero, List.set_cons_succ, i64_w, i32_w]
             rfl
            refine pure_ (i := 16) (N := some 35) (v := ?_) (a' := ?_) #[true, true, true, true, true, true, true, true, true, true, true, true, true, true, true, true, true, false] rfl rfl (any_of HT_.out (by kernel_rfl)) (fun _ _ _ h => h) (Or.inl ⟨by rfl, ?_⟩) ?_ ?_
            rotate_left
            ·intro w'
             go_simp
             with_reducible rfl
            rotate_left
            ·simp only [Act.put, List.setIfInBounds_toArray, List.set_cons_zero, List.set_cons_succ, i64_w, i32_w]
             rfl
            refine pure_ (i := 17) (N := some 36) (v := ?_) (a' := ?_) #[true, true, true, true, true, true, true, true, true, true, true, true, true, true, true, true, true, true] rfl rfl (any_of HT_.out (by kernel_rfl)) (fun _ _ _ h => h) (Or.inl ⟨by rfl, ?_⟩) ?_ ?_
            rotate_left
            ·intro w'
             go_simp
             with_reducible rfl
            rotate_left
            ·simp only [Act.put, List.setIfInBounds_toArray, List.set_cons_zero, List.set_cons_succ, i64_w, i32_w]
             rfl
            refine done_ (done_of HT_.out (by kernel_rfl)) ?_
            try go_wp2
            go_ret
            exact ⟨by first | rfl | (simp [errW_none, errW_some] <;> rfl) | (simp [*, errW_none, errW_some] <;> rfl), by repeat (first | (with_reducible first | exact HB.out | apply below_alloc | apply pw_below_drewN | apply below_drew1) | exact HB.out)⟩
          ·rw [if_neg c8] at H
           have c8b0 : (((rd_T35 l0 x5_1).f0) == (rd l1 x6_2)) = false := beq_eq_false_iff_ne.mpr c8
           have c8b1 : (((rd_T35 l0 x5_1).f0) != (rd l1 x6_2)) = true := bne_iff_ne.mpr c8
           have H' := Aside0.mk H
           clear H
           try go_wp2
           have n0_ := Aside0.mk (below_drew1 HB.out)
           clear HB
           have HB := n0_
           clear n0_
           have p292 : 0 ≤ (x5_1 : Int) := of_decide_eq_true (by first | (with_reducible assumption) | assumption)
           have q292 : x5_1 < (l0.length : Int) := of_decide_eq_true (by first | (with_reducible assumption) | assumption)
           obtain ⟨ad292, A292_4, c292_4, e292, hx292_0, hx292_1, hx292_2, hx292_3, hx292_4, hl292_4, hi292_4⟩ := at_T35 HR0.out x5_1 p292 q292
           have hw292_4 := hx292_4
           have hw292_3 := hx292_3
           have hw292_2 := hx292_2
           have hw292_1 := hx292_1
           have hw292_0 := hx292_0
           cases e292
           replace hx292_0 := (HB.out.cell (World.block_lt_of_cell? w _ hx292_0)).trans hx292_0
           replace hx292_1 := (HB.out.cell (World.block_lt_of_cell? w _ hx292_1)).trans hx292_1
           replace hx292_2 := (HB.out.cell (World.block_lt_of_cell? w _ hx292_2)).trans hx292_2
           replace hx292_3 := (HB.out.cell (World.block_lt_of_cell? w _ hx292_3)).trans hx292_3
           replace hx292_4 := (HB.out.cell (World.block_lt_of_cell? w _ hx292_4)).trans hx292_4
           have HR292_4 := Aside0.mk hi292_4
           have HC292_4 := Aside0.mk hl292_4
           clear hi292_4 hl292_4
           replace p292 := eq_true p292
           replace q292 := eq_true q292
           have p293 : 0 ≤ (x6_2 : Int) := of_decide_eq_true (by first | (with_reducible assumption) | assumption)
           have q293 : x6_2 < (l1.length : Int) := of_decide_eq_true (by first | (with_reducible assumption) | assumption)
           obtain ⟨ad293, e293, hx293_0⟩ := Kd.at_int HR1.out x6_2 p293 q293
           have hw293_0 := hx293_0
           cases e293
           replace hx293_0 := (HB.out.cell (World.block_lt_of_cell? w _ hx293_0)).trans hx293_0
           replace p293 := eq_true p293
           replace q293 := eq_true q293
           refine start_ (n := 18) (S := fun w' => w'.cell? (ad292.add ((x5_1).toNat * 5)) = some (.int .i64 ((rd_T35 l0 x5_1).f0)) ∧ w'.cell? ⟨(ad292.add ((x5_1).toNat * 5)).block, (ad292.add ((x5_1).toNat * 5)).off + 1, none⟩ = some (.string ((rd_T35 l0 x5_1).f1)) ∧ w'.cell? ⟨(ad292.add ((x5_1).toNat * 5)).block, (ad292.add ((x5_1).toNat * 5)).off + 2, none⟩ = some (.string ((rd_T35 l0 x5_1).f2)) ∧ w'.cell? ⟨(ad292.add ((x5_1).toNat * 5)).block, (ad292.add ((x5_1).toNat * 5)).off + 3, none⟩ = some (.int .i64 ((rd_T35 l0 x5_1).f3)) ∧ w'.cell? ⟨(ad292.add ((x5_1).toNat * 5)).block, (ad292.add ((x5_1).toNat * 5)).off + 4, none⟩ = some (.slice A292_4 ((rd_T35 l0 x5_1).f4).length c292_4) ∧ w'.cell? (ad293.add (x6_2).toNat) = some (.int .i64 (rd l1 x6_2))) (ds := []) #[false, false, false, false, false, false, false, false, false, false, false, false, false, false, false, false, false, false] (by kernel_rfl) rfl rfl ⟨((HB.out.cell (World.block_lt_of_cell? w _ hw292_0)).trans hw292_0), ((HB.out.cell (World.block_lt_of_cell? w _ hw292_1)).trans hw292_1), ((HB.out.cell (World.block_lt_of_cell? w _ hw292_2)).trans hw292_2), ((HB.out.cell (World.block_lt_of_cell? w _ hw292_3)).trans hw292_3), ((HB.out.cell (World.block_lt_of_cell? w _ hw292_4)).trans hw292_4), ((HB.out.cell (World.block_lt_of_cell? w _ hw293_0)).trans hw293_0)⟩ (fun hHeld => ?_); refine with_tabW barrowlaw02_only.tab7 barrowlaw02_only.bits7 (fun HT_ HW_ => ?_)
           generalize wr.drew = w15 at HB HR292_4 hx292_0 hx292_1 hx292_2 hx292_3 hx292_4 hx293_0 hHeld ⊢
           refine pure_ (i := 0) (N := some 19) (v := ?_) (a' := ?_) #[true, false, false, false, false, false, false, false, false, false, false, false, false, false, false, false, false, false] rfl rfl (any_of HT_.out (by kernel_rfl)) (fun _ _ _ h => h) (Or.inl ⟨by rfl, ?_⟩) ?_ ?_
           rotate_left
           ·intro w'
            go_simp
            with_reducible rfl
           rotate_left
           ·simp only [Act.put, List.setIfInBounds_toArray, List.set_cons_zero, List.set_cons_succ, i64_w, i32_w]
            rfl
           refine pure_ (i := 1) (N := some 20) (v := ?_) (a' := ?_) #[true, true, false, false, false, false, false, false, false, false, false, false, false, false, false, false, false, false] rfl rfl (any_of HT_.out (by kernel_rfl)) (fun _ _ _ h => h) (Or.inl ⟨by rfl, ?_⟩) ?_ ?_
           rotate_left
           ·intro w'
            go_simp
            with_reducible rfl
           rotate_left
           ·simp only [Act.put, List.setIfInBounds_toArray, List.set_cons_zero, List.set_cons_succ, i64_w, i32_w]
            rfl
           refine pure_ (i := 2) (N := some 21) (v := ?_) (a' := ?_) #[true, true, true, false, false, false, false, false, false, false, false, false, false, false, false, false, false, false] rfl rfl (any_of HT_.out (by kernel_rfl)) (fun _ _ _ h => h) (Or.inl ⟨by rfl, ?_⟩) ?_ ?_
           rotate_left
           ·intro w'
            go_simp
            with_reducible rfl
           rotate_left
           ·simp only [Act.put, List.setIfInBounds_toArray, List.set_cons_zero, List.set_cons_succ, i64_w, i32_w]
            rfl
           refine pure_ (i := 3) (N := some 22) (v := ?_) (a' := ?_) #[true, true, true, true, false, false, false, false, false, false, false, false, false, false, false, false, false, false] rfl rfl (any_of HT_.out (by kernel_rfl)) (fun _ _ _ h => h) (Or.inl ⟨by rfl, ?_⟩) ?_ ?_
           rotate_left
           ·intro w'
            go_simp
            with_reducible rfl
           rotate_left
           ·simp only [Act.put, List.setIfInBounds_toArray, List.set_cons_zero, List.set_cons_succ, i64_w, i32_w]
            rfl
           refine pure_ (i := 5) (N := some 24) (v := ?_) (a' := ?_) #[true, true, true, true, false, true, false, false, false, false, false, false, false, false, false, false, false, false] rfl rfl (any_of HT_.out (by kernel_rfl)) (fun _ _ _ h => h) (Or.inl ⟨by rfl, ?_⟩) ?_ ?_
           rotate_left
           ·intro w'
            go_simp
            with_reducible rfl
           rotate_left
           ·simp only [Act.put, List.setIfInBounds_toArray, List.set_cons_zero, List.set_cons_succ, i64_w, i32_w]
            rfl
           refine pure_ (i := 6) (N := some 25) (v := ?_) (a' := ?_) #[true, true, true, true, false, true, true, false, false, false, false, false, false, false, false, false, false, false] rfl rfl (any_of HT_.out (by kernel_rfl)) (fun _ _ _ h => h) (Or.inl ⟨by rfl, ?_⟩) ?_ ?_
           rotate_left
           ·intro w'
            go_simp
            with_reducible rfl
           rotate_left
           ·simp only [Act.put, List.setIfInBounds_toArray, List.set_cons_zero, List.set_cons_succ, i64_w, i32_w]
            rfl
           refine pure_ (i := 7) (N := some 26) (v := ?_) (a' := ?_) #[true, true, true, true, false, true, true, true, false, false, false, false, false, false, false, false, false, false] rfl rfl (any_of HT_.out (by kernel_rfl)) (fun _ _ _ h => h) (Or.inl ⟨by rfl, ?_⟩) ?_ ?_
           rotate_left
           ·intro w'
            go_simp
            with_reducible rfl
           rotate_left
           ·simp only [Act.put, List.setIfInBounds_toArray, List.set_cons_zero, List.set_cons_succ, i64_w, i32_w]
            rfl
           refine take_ (i := 4) (N := some 23) (v := ?_) (a' := ?_) #[true, true, true, true, true, true, true, true, false, false, false, false, false, false, false, false, false, false] rfl rfl (take_ofW HT_.out HW_.out (by kernel_rfl)) (fun _ _ _ h => h) (Or.inl ⟨by rfl, ?_⟩) hHeld ?_ ?_
           rotate_left
           ·rintro w' ⟨s0, s1, s2, s3, s4, s5⟩
            go_simp
            with_reducible rfl
           rotate_left
           ·simp only [Act.put, List.setIfInBounds_toArray, List.set_cons_zero, List.set_cons_succ, i64_w, i32_w]
            rfl
           refine take_ (i := 8) (N := some 27) (v := ?_) (a' := ?_) #[true, true, true, true, true, true, true, true, true, false, false, false, false, false, false, false, false, false] rfl rfl (take_ofW HT_.out HW_.out (by kernel_rfl)) (fun _ _ _ h => h) (Or.inl ⟨by rfl, ?_⟩) hHeld ?_ ?_
           rotate_left
           ·rintro w' ⟨s0, s1, s2, s3, s4, s5⟩
            go_simp
            with_reducible rfl
           rotate_left
           ·simp only [Act.put, List.setIfInBounds_toArray, List.set_cons_zero, List.set_cons_succ, i64_w, i32_w]
            rfl
           refine pure_ (i := 9) (N := some 28) (v := ?_) (a' := ?_) #[true, true, true, true, true, true, true, true, true, true, false, false, false, false, false, false, false, false] rfl rfl (any_of HT_.out (by kernel_rfl)) (fun _ _ _ h => h) (Or.inl ⟨by rfl, ?_⟩) ?_ ?_
           rotate_left
           ·intro w'
            go_simp
            with_reducible rfl
           rotate_left
           ·simp only [Act.put, List.setIfInBounds_toArray, List.set_cons_zero, List.set_cons_succ, i64_w, i32_w]
            rfl
           refine pure_ (i := 10) (N := some 29) (v := ?_) (a' := ?_) #[true, true, true, true, true, true, true, true, true, true, true, false, false, false, false, false, false, false] rfl rfl (any_of HT_.out (by kernel_rfl)) (fun _ _ _ h => h) (Or.inl ⟨by rfl, ?_⟩) ?_ ?_
           rotate_left
           ·intro w'
            go_simp
            with_reducible rfl
           rotate_left
           ·simp only [Act.put, List.setIfInBounds_toArray, List.set_cons_zero, List.set_cons_succ, i64_w, i32_w]
            rfl
           refine pure_ (i := 11) (N := some 30) (v := undef) (a' := ?_) #[true, true, true, true, true, true, true, true, true, true, true, true, false, false, false, false, false, false] rfl rfl (any_of HT_.out (by kernel_rfl)) (fun _ _ _ h => h) (Or.inr ⟨by rfl, rfl⟩) ?_ ?_
           rotate_left
           ·simp only [Act.put, List.setIfInBounds_toArray, List.set_cons_zero, List.set_cons_succ, i64_w, i32_w]
            rfl
           refine pure_ (i := 12) (N := some 31) (v := undef) (a' := ?_) #[true, true, true, true, true, true, true, true, true, true, true, true, true, false, false, false, false, false] rfl rfl (any_of HT_.out (by kernel_rfl)) (fun _ _ _ h => h) (Or.inr ⟨by rfl, rfl⟩) ?_ ?_
           rotate_left
           ·simp only [Act.put, List.setIfInBounds_toArray, List.set_cons_zero, List.set_cons_succ, i64_w, i32_w]
            rfl
           refine pure_ (i := 13) (N := some 32) (v := undef) (a' := ?_) #[true, true, true, true, true, true, true, true, true, true, true, true, true, true, false, false, false, false] rfl rfl (any_of HT_.out (by kernel_rfl)) (fun _ _ _ h => h) (Or.inr ⟨by rfl, rfl⟩) ?_ ?_
           rotate_left
           ·simp only [Act.put, List.setIfInBounds_toArray, List.set_cons_zero, List.set_cons_succ, i64_w, i32_w]
            rfl
           refine pure_ (i := 14) (N := some 33) (v := undef) (a' := ?_) #[true, true, true, true, true, true, true, true, true, true, true, true, true, true, true, false, false, false] rfl rfl (any_of HT_.out (by kernel_rfl)) (fun _ _ _ h => h) (Or.inr ⟨by rfl, rfl⟩) ?_ ?_
           rotate_left
           ·simp only [Act.put, List.setIfInBounds_toArray, List.set_cons_zero, List.set_cons_succ, i64_w, i32_w]
            rfl
           refine pure_ (i := 15) (N := some 34) (v := undef) (a' := ?_) #[true, true, true, true, true, true, true, true, true, true, true, true, true, true, true, true, false, false] rfl rfl (any_of HT_.out (by kernel_rfl)) (fun _ _ _ h => h) (Or.inr ⟨by rfl, rfl⟩) ?_ ?_
           rotate_left
           ·simp only [Act.put, List.setIfInBounds_toArray, List.set_cons_zero, List.set_cons_succ, i64_w, i32_w]
            rfl
           refine pure_ (i := 16) (N := some 35) (v := undef) (a' := ?_) #[true, true, true, true, true, true, true, true, true, true, true, true, true, true, true, true, true, false] rfl rfl (any_of HT_.out (by kernel_rfl)) (fun _ _ _ h => h) (Or.inr ⟨by rfl, rfl⟩) ?_ ?_
           rotate_left
           ·simp only [Act.put, List.setIfInBounds_toArray, List.set_cons_zero, List.set_cons_succ, i64_w, i32_w]
            rfl
           refine pure_ (i := 17) (N := some 36) (v := ?_) (a' := ?_) #[true, true, true, true, true, true, true, true, true, true, true, true, true, true, true, true, true, true] rfl rfl (any_of HT_.out (by kernel_rfl)) (fun _ _ _ h => h) (Or.inl ⟨by rfl, ?_⟩) ?_ ?_
           rotate_left
           ·intro w'
            go_simp
            with_reducible rfl
           rotate_left
           ·simp only [Act.put, List.setIfInBounds_toArray, List.set_cons_zero, List.set_cons_succ, i64_w, i32_w]
            rfl
           refine done_ (done_of HT_.out (by kernel_rfl)) ?_
           try go_wp2
           go_roundg k2
           case measure => have := HK1.out; have := HK2.out; omega
           case rel => exact ⟨(wrap64 (x6_2 + 1)), (by first | rfl | (simp; done) | (simp [*]; done)), H', ⟨by have := HK1.out; have := HK2.out; omega⟩, ⟨by repeat (first | (with_reducible first | exact HB.out | apply below_alloc | apply pw_below_drewN | apply below_drew1) | exact HB.out)⟩⟩
         ·rw [if_neg c7] at H
          exact absurd H (by simp)
        ·rw [if_neg c6] at H
         exact absurd H (by simp)
       ·rw [if_neg c5] at H
        exact absurd H (by simp)
      ·rw [if_neg c4] at H
       have c4b0 : decide (x6_2 < (l1.length : Int)) = false := decide_eq_false c4
       clear c4
       have H' := Aside0.mk H
       clear H
       go_wp2
       go_roundg k2
       case measure => have := HK1.out; have := HK2.out; omega
       case rel => exact ⟨(wrap64 (x5_1 + 1)), (by first | rfl | (simp; done) | (simp [*]; done)), H', ⟨by have := HK1.out; have := HK2.out; omega⟩, ⟨by repeat (first | (with_reducible first | exact HB.out | apply below_alloc | apply pw_below_drewN | apply below_drew1) | exact HB.out)⟩⟩
   ·rw [if_neg c3] at H
    have c3b0 : decide (x5_1 < (l0.length : Int)) = false := decide_eq_false c3
    clear c3
    obtain rfl := Option.some.inj H
    go_wp2
    go_ret
    exact ⟨by first | rfl | (simp [errW_none, errW_some] <;> rfl) | (simp [*, errW_none, errW_some] <;> rfl), by repeat (first | (with_reducible first | exact HB.out | apply below_alloc | apply pw_below_drewN | apply below_drew1) | exact HB.out)⟩

end Go.Proofs.YtmicghhmbojkfaaGreatDoor.G

-- PRINTED by print.py (a twelfth state) out of the translation. Not trusted: Lean checks it.
namespace Go.Proofs.YtmicghhmbojkfaaGreatDoor.G
open Go.RowKit Go.Proofs.YtmicghhmbojkfaaGreatDoorW.PrintWords Go.Proofs.YtmicghhmbojkfaaGreatDoorW.PrintLast Go.Proofs.YtmicghhmbojkfaaGreatDoorW.PrintMore
attribute [local go_sem] max2_int min2_int max_two min_two max_three min_three max_four min_four   -- for this text's walks alone
set_option linter.unusedVariables false
set_option linter.unusedSimpArgs false

/-! ### barrowlaw02_GoodsQuantities: function 7 -/
def barrowlaw02_GoodsQuantities.f (k : Nat) (l0 : List (S35)) : Option (Bool) := (goods_ParseQty.f (⟨#[49, 48, 48, 48, 48, 48, 48]⟩ : ByteArray)).bind fun bt320 => (if bt320.1 = 1000000 then (if bt320.2 = 0 then ((barrowlaw02_only.f k l0 (([8, 9, 10] : List Int))).bind fun t325 => (some t325)) else (some false)) else (some false))
theorem barrowlaw02_GoodsQuantities.mono : ∀ a0 k, LeO (barrowlaw02_GoodsQuantities.f k a0) (barrowlaw02_GoodsQuantities.f (k + 1) a0) := by
 intro a0 k
 unfold barrowlaw02_GoodsQuantities.f
 repeat' first
   | (with_reducible exact barrowlaw02_only.mono _ _ _)
   | (with_reducible exact LeO.refl _)
   | (with_reducible exact LeO.none _)
   | (with_reducible refine LeO.ite ?_ ?_)
   | (with_reducible refine LeO.bind ?_ (fun _ => ?_))
   | exact barrowlaw02_only.mono _ _ _
   | exact LeO.none _
   | refine LeO.ite ?_ ?_
   | refine LeO.bind ?_ (fun _ => ?_)
set_option maxHeartbeats 8000000 in
set_option maxRecDepth 100000 in
theorem barrowlaw02_GoodsQuantities.calls (k : Nat) (A0 : Option Addr) (c0 : Nat) (l0 : List (S35)) (r : Bool) (w : World) (hTab : Aside0 (Tab w)) (hr0 : Kd.C k35 w A0 l0.length l0) (hc0 : l0.length ≤ c0) (h : barrowlaw02_GoodsQuantities.f k l0 = some r) :
  Calls Tryz.prog 7 #[.slice A0 l0.length c0] w fun e w' => e = .returned (.bool r) ∧ Below w.heap.size w w' := by
 have HR0 := Aside0.mk hr0
 have HC0 := Aside0.mk hc0
 clear hr0 hc0
 have HB := Aside0.mk (Below.refl w.heap.size w)
 have H : ((goods_ParseQty.f (⟨#[49, 48, 48, 48, 48, 48, 48]⟩ : ByteArray)).bind fun bt320 => (if bt320.1 = 1000000 then (if bt320.2 = 0 then ((barrowlaw02_only.f k l0 (([8, 9, 10] : List Int))).bind fun t325 => (some t325)) else (some false)) else (some false))) = some r := h
 clear h
 replace H := Option.bind_eq_some_iff.mp H
 obtain ⟨⟨t320, t321⟩, A20, H⟩ := H
 replace H : (if t320 = 1000000 then (if t321 = 0 then ((barrowlaw02_only.f k l0 (([8, 9, 10] : List Int))).bind fun t325 => (some t325)) else (some false)) else (some false)) = some r := H
 have A2 := Aside0.mk A20
 clear A20
 by_cases c3 : t320 = 1000000
 ·rw [if_pos c3] at H
  have c3b0 : (t320 == 1000000) = true := beq_iff_eq.mpr c3
  have c3b1 : (t320 != 1000000) = false := bne_eq_false_iff_eq.mpr c3
  clear c3
  by_cases c4 : t321 = 0
  ·rw [if_pos c4] at H
   have c4b0 : (t321 == 0) = true := beq_iff_eq.mpr c4
   have c4b1 : (t321 != 0) = false := bne_eq_false_iff_eq.mpr c4
   clear c4
   obtain ⟨y322, hy322⟩ : ∃ y_ : List Int, y_ = (([8, 9, 10] : List Int)) := ⟨_, rfl⟩
   replace H : ((barrowlaw02_only.f k l0 y322).bind fun t325 => (some t325)) = some r := by first | (rw [hy322]; with_reducible exact H) | (have H2_ := (Option.bind_some _ _).symm.trans H; rw [hy322]; with_reducible exact H2_) | (have H2_ := (Option.bind_some _ _).symm.trans H; with_reducible exact H2_) | with_reducible exact H | (rw [hy322]; exact H) | exact H
   have Ny322 := Aside0.mk hy322
   clear hy322
   replace H := Option.bind_eq_some_iff.mp H
   obtain ⟨t325, A50, H⟩ := H
   replace H : (some t325) = some r := H
   have A5 := Aside0.mk A50
   clear A50
   obtain rfl := Option.some.inj H
   go_enter Tryz.func7, Tryz.ntmps7
   go_wp2_with (first | ((with_reducible refine gate_callee (f := 15) rfl ?_); refine goesL_ (some 6) rfl rfl Tryz.func15 (by kernel_rfl) rfl #[.string (⟨#[49, 48, 48, 48, 48, 48, 48]⟩ : ByteArray)] rfl (by (try simp only [List.map_toArray, List.map_cons, List.map_nil]); first | done | rfl | (simp only [List.length_drop, List.length_take]; rfl)) ?_; (with_reducible refine (goods_ParseQty.calls (⟨#[49, 48, 48, 48, 48, 48, 48]⟩ : ByteArray) t320 t321 _ A2.out).mono ?_); rintro e w6 ⟨rfl, hb⟩; refine ⟨_, rfl, ?_⟩; have n0_ := Aside0.mk (below_step (by repeat (first | (with_reducible first | exact HB.out | apply below_alloc | apply pw_below_drewN | apply below_drew1) | exact HB.out)) hb); clear HB; have HB := n0_; clear n0_; (try clear hb); (try clear hb2); (try clear hk); (try clear hi)) | ((with_reducible refine gate_dst (N := 16) rfl ?_); refine Kd.R_lit (Kd.int .i64) _ 3 ?hg (N := 16) ?hd (xs := ([8, 9, 10] : List Int)) (inner := [.int .i64 8, .int .i64 9, .int .i64 10]) (ok := fun _ => True) (okp := fun _ => True) ?hr ?hp (fun _ hk => hk) trivial (Below.refl _ _) (Nat.le_refl _) (by simp) ?_; (case hd => rfl); (case hg => rfl); (case hr => first | (go_simp; done) | (go_simp; rfl)); (case hp => exact (Reps.one (show Kd.M (Kd.int .i64) _ _ _ 8 [.int .i64 8] from rfl) (Reps.one (show Kd.M (Kd.int .i64) _ _ _ 9 [.int .i64 9] from rfl) (Reps.one (show Kd.M (Kd.int .i64) _ _ _ 10 [.int .i64 10] from rfl) (Reps.none _ _))))); intro v323 w7 ho8 hb hg_ hnew_; clear hg_ hnew_; (first | rw [← Ny322.out] at ho8 | (simp only [Int.reduceToNat] at ho8; rw [← Ny322.out] at ho8)); have n0_ := Aside0.mk (Kd.R_lower ho8 (below_size (by repeat (first | (with_reducible first | exact HB.out | apply below_alloc | apply pw_below_drewN | apply below_drew1) | exact HB.out)))); have n1_ := Aside0.mk (below_step (by repeat (first | (with_reducible first | exact HB.out | apply below_alloc | apply pw_below_drewN | apply below_drew1) | exact HB.out)) hb); clear HB; have HO324 := n0_; have HB := n1_; clear n0_ n1_; clear hb ho8; obtain ⟨Ao9, co9, eo9⟩ := Kd.R_slice HO324.out; subst eo9) | ((with_reducible refine gate_callee (f := 11) rfl ?_); refine goesL_ (some 17) rfl rfl Tryz.func11 (by kernel_rfl) rfl #[.slice A0 l0.length c0, .slice Ao9 y322.length co9] rfl (by (try simp only [List.map_toArray, List.map_cons, List.map_nil]); first | done | rfl | (simp only [List.length_drop, List.length_take]; rfl)) ?_; (with_reducible refine (barrowlaw02_only.calls k _ _ l0 _ _ y322 t325 _ ?tab1_ ?side1 ?side2 ?side3 ?side4 A5.out).mono ?_); (case tab1_ => exact tab_keep hTab (by repeat (first | (with_reducible first | exact HB.out | apply below_alloc | apply pw_below_drewN | apply below_drew1) | exact HB.out))); (case side1 => repeat (first | exact (Kd.C_below HR0.out HB.out) | (with_reducible refine Kd.C_alloc ?_ _) | (with_reducible refine Kd.C_drewN ?_ _) | (with_reducible refine Kd.C_drew ?_))); (case side2 => exact HC0.out); (case side3 => repeat (first | exact (Kd.R_reads' HO324.out).2.2 | (with_reducible refine Kd.C_alloc ?_ _) | (with_reducible refine Kd.C_drewN ?_ _) | (with_reducible refine Kd.C_drew ?_))); (case side4 => exact (Kd.R_reads' HO324.out).2.1); rintro e w10 ⟨rfl, hb⟩; refine ⟨_, rfl, ?_⟩; have n0_ := Aside0.mk (Kd.R_below (by (with_reducible repeat (first | apply Kd.R_alloc | apply Kd.R_drewN | apply Kd.R_drew)); exact HO324.out) hb); have n1_ := Aside0.mk (below_step (by repeat (first | (with_reducible first | exact HB.out | apply below_alloc | apply pw_below_drewN | apply below_drew1) | exact HB.out)) hb); clear HO324; clear HB; have HO324 := n0_; have HB := n1_; clear n0_ n1_; (try clear hb); (try clear hb2); (try clear hk); (try clear hi)))
   go_ret
   exact ⟨by first | rfl | (simp [errW_none, errW_some] <;> rfl) | (simp [*, errW_none, errW_some] <;> rfl), by repeat (first | (with_reducible first | exact HB.out | apply below_alloc | apply pw_below_drewN | apply below_drew1) | exact HB.out)⟩
  ·rw [if_neg c4] at H
   have c4b0 : (t321 == 0) = false := beq_eq_false_iff_ne.mpr c4
   have c4b1 : (t321 != 0) = true := bne_iff_ne.mpr c4
   obtain rfl := Option.some.inj H
   go_enter Tryz.func7, Tryz.ntmps7
   go_wp2_with (first | ((with_reducible refine gate_callee (f := 15) rfl ?_); refine goesL_ (some 6) rfl rfl Tryz.func15 (by kernel_rfl) rfl #[.string (⟨#[49, 48, 48, 48, 48, 48, 48]⟩ : ByteArray)] rfl (by (try simp only [List.map_toArray, List.map_cons, List.map_nil]); first | done | rfl | (simp only [List.length_drop, List.length_take]; rfl)) ?_; (with_reducible refine (goods_ParseQty.calls (⟨#[49, 48, 48, 48, 48, 48, 48]⟩ : ByteArray) t320 t321 _ A2.out).mono ?_); rintro e w11 ⟨rfl, hb⟩; refine ⟨_, rfl, ?_⟩; have n0_ := Aside0.mk (below_step (by repeat (first | (with_reducible first | exact HB.out | apply below_alloc | apply pw_below_drewN | apply below_drew1) | exact HB.out)) hb); clear HB; have HB := n0_; clear n0_; (try clear hb); (try clear hb2); (try clear hk); (try clear hi)))
   go_ret
   exact ⟨by first | rfl | (simp [errW_none, errW_some] <;> rfl) | (simp [*, errW_none, errW_some] <;> rfl), by repeat (first | (with_reducible first | exact HB.out | apply below_alloc | apply pw_below_drewN | apply below_drew1) | exact HB.out)⟩
 ·rw [if_neg c3] at H
  have c3b0 : (t320 == 1000000) = false := beq_eq_false_iff_ne.mpr c3
  have c3b1 : (t320 != 1000000) = true := bne_iff_ne.mpr c3
  obtain rfl := Option.some.inj H
  go_enter Tryz.func7, Tryz.ntmps7
  go_wp2_with (first | ((with_reducible refine gate_callee (f := 15) rfl ?_); refine goesL_ (some 6) rfl rfl Tryz.func15 (by kernel_rfl) rfl #[.string (⟨#[49, 48, 48, 48, 48, 48, 48]⟩ : ByteArray)] rfl (by (try simp only [List.map_toArray, List.map_cons, List.map_nil]); first | done | rfl | (simp only [List.length_drop, List.length_take]; rfl)) ?_; (with_reducible refine (goods_ParseQty.calls (⟨#[49, 48, 48, 48, 48, 48, 48]⟩ : ByteArray) t320 t321 _ A2.out).mono ?_); rintro e w12 ⟨rfl, hb⟩; refine ⟨_, rfl, ?_⟩; have n0_ := Aside0.mk (below_step (by repeat (first | (with_reducible first | exact HB.out | apply below_alloc | apply pw_below_drewN | apply below_drew1) | exact HB.out)) hb); clear HB; have HB := n0_; clear n0_; (try clear hb); (try clear hb2); (try clear hk); (try clear hi)))
  go_ret
  exact ⟨by first | rfl | (simp [errW_none, errW_some] <;> rfl) | (simp [*, errW_none, errW_some] <;> rfl), by repeat (first | (with_reducible first | exact HB.out | apply below_alloc | apply pw_below_drewN | apply below_drew1) | exact HB.out)⟩

end Go.Proofs.YtmicghhmbojkfaaGreatDoor.G

/- The frame of the laws over scripts of calls: every step of some kinds is as the reference has it, if each kind of call is. -/
namespace Go.Proofs.YtmicghhmbojkfaaGreatDoor.Fr
open Go.RowKit Go.Proofs.YtmicghhmbojkfaaGreatDoor.G Go.Proofs.YtmicghhmbojkfaaGreatDoorW.PrintWords Go.Proofs.YtmicghhmbojkfaaGreatDoorW.PrintLast Go.Proofs.YtmicghhmbojkfaaGreatDoorW.PrintMore
/-- What a row's reading says of a step. -/
structure OpOk (x : S35) : Prop where
  a : x.f1.size ≤ 140737488351232
  b : x.f2.size ≤ 140737488351232
  n : -9223372036854775808 ≤ x.f3 ∧ x.f3 ≤ 9223372036854775807
  l : ∀ c ∈ x.f4, -9223372036854775808 ≤ c ∧ c ≤ 9223372036854775807
  m : x.f4.length ≤ 17592186043904
/-- A step is as the reference has it. -/
def PlayOk (x : S35) : Prop := Ev (fun k => barrowlaw02_plays.f k x.f0 x.f1 x.f2 x.f3 x.f4) true
theorem plays_of (x : S35)
    (h1 : x.f0 = 1 ∨ x.f0 = 2 ∨ x.f0 = 11 → Ev (fun k => barrowlaw02_name.f k x.f0 x.f1 x.f2 x.f3 x.f4) true)
    (h2 : x.f0 = 3 ∨ x.f0 = 4 ∨ x.f0 = 5 → Ev (fun k => barrowlaw02_article.f k x.f0 x.f1 x.f2 x.f3 x.f4) true)
    (h3 : x.f0 = 6 ∨ x.f0 = 12 → Ev (fun k => barrowlaw02_match.f k x.f1 x.f2) true)
    (h4 : x.f0 = 12 → Ev (fun k => barrowlaw02_match.f k x.f2 x.f2) true)
    (h5 : x.f0 = 7 → ∃ c, Ev (fun k => goods_Compare.f k x.f1 x.f2) c ∧ Ev (fun k => barrowref02_Compare.f k x.f1 x.f2) c)
    (h6 : x.f0 = 8 ∨ x.f0 = 9 ∨ x.f0 = 10 → Ev (fun k => barrowlaw02_quantity.f k x.f0 x.f1 x.f2 x.f3 x.f4) true) : PlayOk x := by
  unfold PlayOk
  have now : ∀ g : Nat → Option Bool, Ev g true → Ev (fun k => (g k).bind fun t => some t) true := fun g h => Ev.bind h (Ev.now true)
  by_cases c1 : x.f0 = 1 ∨ x.f0 = 2 ∨ x.f0 = 11
  · refine Ev.step (f := fun k => (barrowlaw02_name.f k x.f0 x.f1 x.f2 x.f3 x.f4).bind fun t => some t) (fun k => ?_) (now _ (h1 c1))
    unfold barrowlaw02_plays.f
    by_cases e1 : x.f0 = 1
    · rw [if_pos e1, barrowlaw02_plays.j0, if_pos (by rw [e1]; rfl)]
    · rw [if_neg e1]
      by_cases e2 : x.f0 = 2
      · rw [if_pos e2, barrowlaw02_plays.j0, if_pos (by rw [e2]; rfl)]
      · rw [if_neg e2, barrowlaw02_plays.j0, if_pos (by rw [show x.f0 = 11 by omega]; rfl)]
  · have base : ∀ k b, barrowlaw02_plays.f (k + 1 + 1) x.f0 x.f1 x.f2 x.f3 x.f4 = (if x.f0 = 3 then barrowlaw02_plays.j1 (k + 1) x.f0 (x.f0 == 3) x.f0 x.f1 x.f2 x.f3 x.f4 else if x.f0 = 4 then barrowlaw02_plays.j1 (k + 1) x.f0 (x.f0 == 4) x.f0 x.f1 x.f2 x.f3 x.f4 else barrowlaw02_plays.j1 (k + 1) x.f0 (x.f0 == 5) x.f0 x.f1 x.f2 x.f3 x.f4) ∨ b = true := by
      intro k b
      left
      unfold barrowlaw02_plays.f
      rw [if_neg (by omega), if_neg (by omega), barrowlaw02_plays.j0, if_neg (by simp; omega)]
    by_cases c2 : x.f0 = 3 ∨ x.f0 = 4 ∨ x.f0 = 5
    · refine Ev.step (f := fun k => barrowlaw02_plays.f (k + 1) x.f0 x.f1 x.f2 x.f3 x.f4) (fun k => rfl) (Ev.step (f := fun k => (barrowlaw02_article.f k x.f0 x.f1 x.f2 x.f3 x.f4).bind fun t => some t) (fun k => ?_) (now _ (h2 c2)))
      rw [(base k false).resolve_right (by decide)]
      by_cases e1 : x.f0 = 3
      · rw [if_pos e1, barrowlaw02_plays.j1, if_pos (by rw [e1]; rfl)]
      · rw [if_neg e1]
        by_cases e2 : x.f0 = 4
        · rw [if_pos e2, barrowlaw02_plays.j1, if_pos (by rw [e2]; rfl)]
        · rw [if_neg e2, barrowlaw02_plays.j1, if_pos (by rw [show x.f0 = 5 by omega]; rfl)]
    · have base2 : ∀ k, barrowlaw02_plays.f (k + 1 + 1) x.f0 x.f1 x.f2 x.f3 x.f4 = barrowlaw02_plays.j1 (k + 1) x.f0 false x.f0 x.f1 x.f2 x.f3 x.f4 := by
        intro k
        rw [(base k false).resolve_right (by decide), if_neg (by omega), if_neg (by omega), show (x.f0 == 5) = false from by simp; omega]
      have go : ∀ f : Nat → Option Bool, (∀ k, barrowlaw02_plays.j1 (k + 1) x.f0 false x.f0 x.f1 x.f2 x.f3 x.f4 = f k) → Ev f true → Ev (fun k => barrowlaw02_plays.f k x.f0 x.f1 x.f2 x.f3 x.f4) true :=
        fun f hf h => Ev.step (f := fun k => barrowlaw02_plays.f (k + 1) x.f0 x.f1 x.f2 x.f3 x.f4) (fun k => rfl) (Ev.step (f := f) (fun k => (base2 k).trans (hf k)) h)
      by_cases c6 : x.f0 = 6
      · refine go (fun k => (barrowlaw02_match.f k x.f1 x.f2).bind fun t => some t) (fun k => ?_) (now _ (h3 (.inl c6)))
        rw [barrowlaw02_plays.j1, if_neg (by decide), if_pos c6]
      · by_cases c12 : x.f0 = 12
        · refine go (fun k => (barrowlaw02_match.f k x.f1 x.f2).bind fun t => if t = true then (barrowlaw02_match.f k x.f2 x.f2).bind fun t => some t else some false) (fun k => ?_) (Ev.bind (h3 (.inr c12)) (Ev.congr (fun k => if_pos rfl) (now _ (h4 c12))))
          rw [barrowlaw02_plays.j1, if_neg (by decide), if_neg c6, if_pos c12]
        · by_cases c7 : x.f0 = 7
          · obtain ⟨c, g1, g2⟩ := h5 c7
            refine go (fun k => (goods_Compare.f k x.f1 x.f2).bind fun t => (barrowref02_Compare.f k x.f1 x.f2).bind fun u => some (t == u)) (fun k => ?_) (Ev.bind g1 (Ev.bind g2 (Ev.congr (fun k => by simp) (Ev.now true))))
            rw [barrowlaw02_plays.j1, if_neg (by decide), if_neg c6, if_neg c12, if_pos c7]
          · by_cases c8 : x.f0 = 8 ∨ x.f0 = 9 ∨ x.f0 = 10
            · refine go (fun k => (barrowlaw02_quantity.f k x.f0 x.f1 x.f2 x.f3 x.f4).bind fun t => some t) (fun k => ?_) (now _ (h6 c8))
              rw [barrowlaw02_plays.j1, if_neg (by decide), if_neg c6, if_neg c12, if_neg c7]
              by_cases e1 : x.f0 = 8
              · rw [if_pos e1]
              · rw [if_neg e1]
                by_cases e2 : x.f0 = 9
                · rw [if_pos e2]
                · rw [if_neg e2, if_pos (by omega)]
            · refine go (fun _ => some true) (fun k => ?_) (Ev.now true)
              rw [barrowlaw02_plays.j1, if_neg (by decide), if_neg c6, if_neg c12, if_neg c7, if_neg (by omega), if_neg (by omega), if_neg (by omega)]
theorem rd_at (xs : List S35) (i : Nat) (h : i < xs.length) : rd_T35 xs (i : Int) = xs[i] := by
  unfold rd_T35
  rw [Int.toNat_natCast, List.getD_eq_getElem?_getD, List.getElem?_eq_getElem h]; rfl
theorem wrap_up (i : Nat) (h : i < 1152921504606846976) : wrap64 ((i : Int) + 1) = ((i + 1 : Nat) : Int) := by unfold wrap64; omega
end Go.Proofs.YtmicghhmbojkfaaGreatDoor.Fr

/- The frame of the laws over scripts of calls: the walk over the steps of some kinds. -/
namespace Go.Proofs.YtmicghhmbojkfaaGreatDoor.Fr
open Go.RowKit Go.Proofs.YtmicghhmbojkfaaGreatDoor.G Go.Proofs.YtmicghhmbojkfaaGreatDoorW.PrintWords Go.Proofs.YtmicghhmbojkfaaGreatDoorW.PrintLast Go.Proofs.YtmicghhmbojkfaaGreatDoorW.PrintMore
theorem rdi_at (xs : List Int) (i : Nat) (h : i < xs.length) : rd xs (i : Int) = xs[i] := by
  unfold rd
  rw [Int.toNat_natCast, List.getD_eq_getElem?_getD, List.getElem?_eq_getElem h]; rfl
theorem only_l1 (xs : List S35) (ks : List Int) (hx : xs.length ≤ 1152921504606846976) (hk : ks.length ≤ 100) (i : Nat) (hi : i < xs.length) (hp : xs[i].f0 ∈ ks → PlayOk xs[i])
    (hn : Ev (fun k => barrowlaw02_only.l0 k xs ks ((i + 1 : Nat) : Int)) true) : ∀ (d j : Nat), j + d = ks.length → Ev (fun k => barrowlaw02_only.l1 k xs ks i j) true
  | 0, j, hj => Ev.step (f := fun k => barrowlaw02_only.l0 k xs ks ((i + 1 : Nat) : Int)) (fun k => by rw [barrowlaw02_only.l1, if_neg (by omega), wrap_up i (by omega)]) hn
  | d + 1, j, hj => by
    have ih := only_l1 xs ks hx hk i hi hp hn d (j + 1) (by omega)
    have hj' : j < ks.length := by omega
    have hw := wrap_up j (by omega)
    by_cases h : xs[i].f0 = ks[j]
    · refine Ev.step (f := fun k => (barrowlaw02_plays.f k xs[i].f0 xs[i].f1 xs[i].f2 xs[i].f3 xs[i].f4).bind fun t => if t = true then barrowlaw02_only.l1 k xs ks i ((j + 1 : Nat) : Int) else some false) (fun k => ?_)
        (Ev.bind (hp (by rw [h]; exact List.getElem_mem hj')) (Ev.congr (fun k => if_pos rfl) ih))
      rw [barrowlaw02_only.l1, if_pos (by clear hw; omega), if_pos (by clear hw; omega), if_pos (by clear hw; omega), if_pos (by clear hw; omega), rd_at xs i hi, rdi_at ks j hj', if_pos h, hw]
    · refine Ev.step (f := fun k => barrowlaw02_only.l1 k xs ks i ((j + 1 : Nat) : Int)) (fun k => ?_) ih
      rw [barrowlaw02_only.l1, if_pos (by clear hw; omega), if_pos (by clear hw; omega), if_pos (by clear hw; omega), if_pos (by clear hw; omega), rd_at xs i hi, rdi_at ks j hj', if_neg h, hw]
theorem only_l0 (xs : List S35) (ks : List Int) (hx : xs.length ≤ 1152921504606846976) (hk : ks.length ≤ 100) (hp : ∀ x ∈ xs, x.f0 ∈ ks → PlayOk x) : ∀ (d i : Nat), i + d = xs.length → Ev (fun k => barrowlaw02_only.l0 k xs ks i) true
  | 0, i, hi => Ev.step (f := fun _ => some true) (fun k => by rw [barrowlaw02_only.l0, if_neg (by omega)]) (Ev.now true)
  | d + 1, i, hi => by
    have ih := only_l0 xs ks hx hk hp d (i + 1) (by omega)
    have := only_l1 xs ks hx hk i (by omega) (hp _ (List.getElem_mem _)) ih ks.length 0 (by omega)
    exact Ev.step (f := fun k => barrowlaw02_only.l1 k xs ks i ((0 : Nat) : Int)) (fun k => by rw [barrowlaw02_only.l0, if_pos (by omega)]; rfl) this
theorem only_ev (xs : List S35) (ks : List Int) (hx : xs.length ≤ 1152921504606846976) (hk : ks.length ≤ 100) (hp : ∀ x ∈ xs, x.f0 ∈ ks → PlayOk x) : Ev (fun k => barrowlaw02_only.f k xs ks) true := by
  have := only_l0 xs ks hx hk hp xs.length 0 (by omega)
  exact this
end Go.Proofs.YtmicghhmbojkfaaGreatDoor.Fr

/- GoodsQuantities: every ParseQty, PrintQty and Total of a script of calls is as the reference has it. For every script whose lists are of bulk at most 1048576. -/
namespace Go.Proofs.YtmicghhmbojkfaaGreatDoor.PL
open Go.RowKit Go.Proofs.YtmicghhmbojkfaaGreatDoor.G Go.Proofs.YtmicghhmbojkfaaGreatDoor.Fr Go.Proofs.YtmicghhmbojkfaaGreatDoorW.PrintWords Go.Proofs.YtmicghhmbojkfaaGreatDoorW.PrintLast
theorem isNum_same (a b : Int) : barrowlaw02_isNum.f a b a b = some true := by unfold barrowlaw02_isNum.f; rw [if_pos rfl]; simp
theorem isText_same (a : ByteArray) (b : Int) : barrowlaw02_isText.f a b a b = some true := by unfold barrowlaw02_isText.f; rw [if_pos rfl]; simp
theorem quantity_same (x : S35) (hx : x.f4.length ≤ 1048576) : Ev (fun k => barrowlaw02_quantity.f k x.f0 x.f1 x.f2 x.f3 x.f4) true := by
  refine ⟨2 * x.f4.length + 1000, fun k hk => ?_⟩
  show barrowlaw02_quantity.f k x.f0 x.f1 x.f2 x.f3 x.f4 = some true
  unfold barrowlaw02_quantity.f
  by_cases h8 : x.f0 = 8
  · rw [if_pos h8, goods_ParseQty.f, PQ.rparse_eq _ k (by omega), Option.bind_some, Option.bind_some, isNum_same]; rfl
  · rw [if_neg h8]
    by_cases h9 : x.f0 = 9
    · obtain ⟨v, h1, h2⟩ := PQ.print_same x.f3 k (by omega)
      rw [if_pos h9, h1, h2, Option.bind_some, Option.bind_some, isText_same]; rfl
    · rw [if_neg h9, PQ.rtotal_eq _ hx k (by omega), PQ.total_eq _ hx k (by omega), Option.bind_some, Option.bind_some, isNum_same]; rfl
theorem GoodsQuantities (l : List S35) (hl : l.length ≤ 140737488351232) (_hok : ∀ x ∈ l, OpOk x) (hsm : ∀ x ∈ l, x.f4.length ≤ 1048576) : ∃ k, barrowlaw02_GoodsQuantities.f k l = some true := by
  have h0 : Ev (fun _ => goods_ParseQty.f (⟨#[49, 48, 48, 48, 48, 48, 48]⟩ : ByteArray)) (1000000, 0) := by
    have n1 : qtyL [49, 48, 48, 48, 48, 48, 48] = (1000000, 0) := by decide +kernel
    exact ⟨0, fun _ _ => congrArg some n1⟩
  have h1 := only_ev l [8, 9, 10] (by omega) (by decide) (fun x hx hk => by
    simp only [List.mem_cons, List.not_mem_nil, or_false] at hk
    exact plays_of x (fun h => by omega) (fun h => by omega) (fun h => by omega) (fun h => by omega) (fun h => by omega) (fun _ => quantity_same x (hsm x hx)))
  refine Ev.rounds (r := true) ?_
  unfold barrowlaw02_GoodsQuantities.f
  exact Ev.bind h0 (Ev.congr (fun k => if_pos rfl) (Ev.congr (fun k => if_pos rfl) (Ev.bind h1 (Ev.now true))))
end Go.Proofs.YtmicghhmbojkfaaGreatDoor.PL
