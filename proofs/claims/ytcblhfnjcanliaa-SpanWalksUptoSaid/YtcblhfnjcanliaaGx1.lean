-- PRINTED by print.py (a twelfth state) out of the translation. Not trusted: Lean checks it.
import Derived.Test.YtcblhfnjcanliaaGx0
namespace Go.Proofs.Ytcblhfnjcanliaa.G
open Go.RowKit Go.Proofs.YtcblhfnjcanliaaW.PrintWords Go.Proofs.YtcblhfnjcanliaaW.PrintLast Go.Proofs.YtcblhfnjcanliaaW.PrintMore
attribute [local go_sem] max2_int min2_int max_two min_two max_three min_three max_four min_four   -- for this text's walks alone
set_option linter.unusedVariables false
set_option linter.unusedSimpArgs false

/-! ### barrowref01_marks: function 11 -/
mutual
def barrowref01_marks.l0 : Nat → List (List (S24)) → List (S40) → Int → Option ((List (S40)))
 | 0, _, _, _ => none
 | k + 1, x0, x3, x4 => if x4 < (x0.length : Int) then (barrowref01_marks.l1 k x0 x3 x4 0) else (some x3)
def barrowref01_marks.l1 : Nat → List (List (S24)) → List (S40) → Int → Int → Option ((List (S40)))
 | 0, _, _, _, _ => none
 | k + 1, x0, x3, x4, x5 => if 0 ≤ x4 then (if x4 < (x0.length : Int) then (if x5 < ((rd_L2 x0 x4).length : Int) then (if 0 ≤ x5 then (if ((rd_T24 (rd_L2 x0 x4) x5).f0) < 1 then (barrowref01_marks.j2 k x0 x3 x4 x5 1 ((rd_T24 (rd_L2 x0 x4) x5).f1)) else (barrowref01_marks.j2 k x0 x3 x4 x5 ((rd_T24 (rd_L2 x0 x4) x5).f0) ((rd_T24 (rd_L2 x0 x4) x5).f1))) else (none)) else (barrowref01_marks.l0 k x0 x3 (wrap64 (x4 + 1)))) else (none)) else (none)
def barrowref01_marks.j2 : Nat → List (List (S24)) → List (S40) → Int → Int → Int → Int → Option ((List (S40)))
 | 0, _, _, _, _, _, _ => none
 | k + 1, x0, x3, x4, x5, x6, x7 => if x7 > 1000000000 then (if x6 ≤ 1000000000 then (if x3.length < 5864062014805 then ((some (x3 ++ [(⟨x6, x4, 1⟩ : S40)] : List (S40))).bind fun y106 => (if y106.length < 5864062014805 then (barrowref01_marks.l1 k x0 (y106 ++ [(⟨1000000000 + 1, x4, (-1)⟩ : S40)]) x4 (wrap64 (x5 + 1))) else (none))) else (none)) else (barrowref01_marks.l1 k x0 x3 x4 (wrap64 (x5 + 1)))) else (if x6 ≤ x7 then (if x3.length < 5864062014805 then ((some (x3 ++ [(⟨x6, x4, 1⟩ : S40)] : List (S40))).bind fun y112 => (if y112.length < 5864062014805 then (barrowref01_marks.l1 k x0 (y112 ++ [(⟨wrap64 (x7 + 1), x4, (-1)⟩ : S40)]) x4 (wrap64 (x5 + 1))) else (none))) else (none)) else (barrowref01_marks.l1 k x0 x3 x4 (wrap64 (x5 + 1))))
end
def barrowref01_marks.f (k : Nat) (l0 : List (List (S24))) : Option ((List (S40))) := barrowref01_marks.l0 k l0 ([] : List (S40)) 0
theorem barrowref01_marks.mono_l : ∀ k, (∀ y0 y1 y2, LeO (barrowref01_marks.l0 k y0 y1 y2) (barrowref01_marks.l0 (k + 1) y0 y1 y2)) ∧ (∀ y0 y1 y2 y3, LeO (barrowref01_marks.l1 k y0 y1 y2 y3) (barrowref01_marks.l1 (k + 1) y0 y1 y2 y3)) ∧ (∀ y0 y1 y2 y3 y4 y5, LeO (barrowref01_marks.j2 k y0 y1 y2 y3 y4 y5) (barrowref01_marks.j2 (k + 1) y0 y1 y2 y3 y4 y5))
 | 0 => ⟨fun _ _ _ r h => by simp [barrowref01_marks.l0] at h, fun _ _ _ _ r h => by simp [barrowref01_marks.l1] at h, fun _ _ _ _ _ _ r h => by simp [barrowref01_marks.j2] at h⟩
 | k + 1 => by
  obtain ⟨ih0, ih1, ih2⟩ := barrowref01_marks.mono_l k
  refine ⟨?_, ?_, ?_⟩
  ·intro y0 y1 y2
   unfold barrowref01_marks.l0
   repeat' first
   | (with_reducible exact ih0 _ _ _)
   | (with_reducible exact ih1 _ _ _ _)
   | (with_reducible exact ih2 _ _ _ _ _ _)
   | (with_reducible exact LeO.refl _)
   | (with_reducible exact LeO.none _)
   | (with_reducible refine LeO.ite ?_ ?_)
   | (with_reducible refine LeO.bind ?_ (fun _ => ?_))
   | exact ih0 _ _ _
   | exact ih1 _ _ _ _
   | exact ih2 _ _ _ _ _ _
   | exact LeO.none _
   | refine LeO.ite ?_ ?_
   | refine LeO.bind ?_ (fun _ => ?_)
  ·intro y0 y1 y2 y3
   unfold barrowref01_marks.l1
   repeat' first
   | (with_reducible exact ih0 _ _ _)
   | (with_reducible exact ih1 _ _ _ _)
   | (with_reducible exact ih2 _ _ _ _ _ _)
   | (with_reducible exact LeO.refl _)
   | (with_reducible exact LeO.none _)
   | (with_reducible refine LeO.ite ?_ ?_)
   | (with_reducible refine LeO.bind ?_ (fun _ => ?_))
   | exact ih0 _ _ _
   | exact ih1 _ _ _ _
   | exact ih2 _ _ _ _ _ _
   | exact LeO.none _
   | refine LeO.ite ?_ ?_
   | refine LeO.bind ?_ (fun _ => ?_)
  ·intro y0 y1 y2 y3 y4 y5
   unfold barrowref01_marks.j2
   repeat' first
   | (with_reducible exact ih0 _ _ _)
   | (with_reducible exact ih1 _ _ _ _)
   | (with_reducible exact ih2 _ _ _ _ _ _)
   | (with_reducible exact LeO.refl _)
   | (with_reducible exact LeO.none _)
   | (with_reducible refine LeO.ite ?_ ?_)
   | (with_reducible refine LeO.bind ?_ (fun _ => ?_))
   | exact ih0 _ _ _
   | exact ih1 _ _ _ _
   | exact ih2 _ _ _ _ _ _
   | exact LeO.none _
   | refine LeO.ite ?_ ?_
   | refine LeO.bind ?_ (fun _ => ?_)
theorem barrowref01_marks.mono : ∀ a0 k, LeO (barrowref01_marks.f k a0) (barrowref01_marks.f (k + 1) a0) := by
 intro a0 k
 obtain ⟨ih0, ih1, ih2⟩ := barrowref01_marks.mono_l k
 unfold barrowref01_marks.f
 repeat' first
   | (with_reducible exact ih0 _ _ _)
   | (with_reducible exact ih1 _ _ _ _)
   | (with_reducible exact ih2 _ _ _ _ _ _)
   | (with_reducible exact LeO.refl _)
   | (with_reducible exact LeO.none _)
   | (with_reducible refine LeO.ite ?_ ?_)
   | (with_reducible refine LeO.bind ?_ (fun _ => ?_))
   | exact ih0 _ _ _
   | exact ih1 _ _ _ _
   | exact ih2 _ _ _ _ _ _
   | exact LeO.none _
   | refine LeO.ite ?_ ?_
   | refine LeO.bind ?_ (fun _ => ?_)
set_option maxHeartbeats 8000000 in
set_option maxRecDepth 100000 in
theorem barrowref01_marks.calls (k : Nat) (A0 : Option Addr) (c0 : Nat) (l0 : List (List (S24))) (r : List (S40)) (w : World) (hr0 : Kd.C (Kd.slice 24 k24) w A0 l0.length l0) (hc0 : l0.length ≤ c0) (h : barrowref01_marks.f k l0 = some r) :
  Calls Try.prog 11 #[.slice A0 l0.length c0] w fun e w' => ∃ v0_ : Value, e = .returned (v0_) ∧ Kd.R k40 40 w' w.heap.size (fun _ => True) v0_ r ∧ Below w.heap.size w w' := by
 have hu40 := Try.underlying40
 have HR0 := Aside0.mk hr0
 have HC0 := Aside0.mk hc0
 clear hr0 hc0
 have HB := Aside0.mk (Below.refl w.heap.size w)
 have H : (barrowref01_marks.l0 k l0 ([] : List (S40)) 0) = some r := h
 clear h
 have H' := Aside0.mk H
 clear H
 go_enter Try.func11, Try.ntmps11
 go_wp2
 go_loopg [3, 4] k (fun kq v3 v4 w' => ∃ (x3_1 : List (S40)) (x4_1 : Int), v4 = .int .i64 x4_1 ∧ Aside0 (barrowref01_marks.l0 kq l0 x3_1 x4_1 = some r) ∧ Aside0 (kq ≤ k) ∧ Aside0 (Kd.R k40 40 w' w.heap.size (fun _ => True) v3 x3_1) ∧ Aside0 (Below w.heap.size w w'))
 case atStart => exact ⟨(([] : List (S40))), (0), (by first | rfl | (simp; done) | (simp [*]; done)), H', ⟨Nat.le_refl _⟩, ⟨by first | exact Kd.R_nil _ _ _ _ _ | exact Kd.N_nil _ _ _ _ _ | exact Kd.V_nil _ _ _ _ _ | exact Kd.Q_nil _ _ _ _ _ | exact Kd.S_nil _ _ _ _ _⟩, ⟨by repeat (first | (with_reducible first | exact HB.out | apply below_alloc | apply pw_below_drewN | apply below_drew1) | exact HB.out)⟩⟩
 case round =>
  clear H'
  try clear c1
  obtain ⟨x3_1, x4_1, rfl, HA, HK1, HO_3, HB⟩ := hrel
  cases gk with
  | zero => exact absurd HA.out (by simp [barrowref01_marks.l0])
  | succ k1 =>
   have H := HA.out
   clear HA
   simp only [barrowref01_marks.l0] at H
   by_cases c2 : x4_1 < (l0.length : Int)
   ·rw [if_pos c2] at H
    have c2b0 : decide (x4_1 < (l0.length : Int)) = true := decide_eq_true c2
    clear c2
    have H' := Aside0.mk H
    clear H
    go_wp2
    go_loopg [3, 5] k1 (fun kq v3 v5 w' => ∃ (x3_2 : List (S40)) (x5_2 : Int), v5 = .int .i64 x5_2 ∧ Aside0 (barrowref01_marks.l1 kq l0 x3_2 x4_1 x5_2 = some r) ∧ Aside0 (kq ≤ k1) ∧ Aside0 (Kd.R k40 40 w' w.heap.size (fun _ => True) v3 x3_2) ∧ Aside0 (Below w.heap.size w w'))
    case atStart => exact ⟨(x3_1), (0), (by first | rfl | (simp; done) | (simp [*]; done)), H', ⟨Nat.le_refl _⟩, ⟨by (with_reducible repeat (first | apply Kd.R_alloc | apply Kd.R_drewN | apply Kd.R_drew)); exact HO_3.out⟩, ⟨by repeat (first | (with_reducible first | exact HB.out | apply below_alloc | apply pw_below_drewN | apply below_drew1) | exact HB.out)⟩⟩
    case round =>
     clear H'
     try clear c1
     try clear c2
     try clear c2b0
     try clear p2
     obtain ⟨x3_2, x5_2, rfl, HA, HK2, HO_3, HB⟩ := hrel
     cases gk with
     | zero => exact absurd HA.out (by simp [barrowref01_marks.l1])
     | succ k2 =>
      have H := HA.out
      clear HA
      simp only [barrowref01_marks.l1] at H
      by_cases c3 : 0 ≤ x4_1
      ·rw [if_pos c3] at H
       have c3b0 : decide (0 ≤ x4_1) = true := decide_eq_true c3
       clear c3
       by_cases c4 : x4_1 < (l0.length : Int)
       ·rw [if_pos c4] at H
        have c4b0 : decide (x4_1 < (l0.length : Int)) = true := decide_eq_true c4
        clear c4
        by_cases c5 : x5_2 < ((rd_L2 l0 x4_1).length : Int)
        ·rw [if_pos c5] at H
         have c5b0 : decide (x5_2 < ((rd_L2 l0 x4_1).length : Int)) = true := decide_eq_true c5
         clear c5
         by_cases c6 : 0 ≤ x5_2
         ·rw [if_pos c6] at H
          have c6b0 : decide (0 ≤ x5_2) = true := decide_eq_true c6
          clear c6
          have HC7 := Aside0.mk H
          clear H
          have p101 : 0 ≤ (x4_1 : Int) := of_decide_eq_true (by first | (with_reducible assumption) | assumption)
          have q101 : x4_1 < (l0.length : Int) := of_decide_eq_true (by first | (with_reducible assumption) | assumption)
          obtain ⟨ad101, A101_0, c101_0, e101, hx101_0, hl101_0, hi101_0⟩ := at_L2 HR0.out x4_1 p101 q101
          cases e101
          replace hx101_0 := (HB.out.cell (World.block_lt_of_cell? w _ hx101_0)).trans hx101_0
          have HR101_0 := Aside0.mk hi101_0
          have HC101_0 := Aside0.mk hl101_0
          clear hi101_0 hl101_0
          replace p101 := eq_true p101
          replace q101 := eq_true q101
          have p102 : 0 ≤ (x4_1 : Int) := of_decide_eq_true (by first | (with_reducible assumption) | assumption)
          have q102 : x4_1 < (l0.length : Int) := of_decide_eq_true (by first | (with_reducible assumption) | assumption)
          obtain ⟨ad102, A102_0, c102_0, e102, hx102_0, hl102_0, hi102_0⟩ := at_L2 HR0.out x4_1 p102 q102
          obtain rfl : ad101 = ad102 := (by injection e102)
          replace hx102_0 := (HB.out.cell (World.block_lt_of_cell? w _ hx102_0)).trans hx102_0
          have HR102_0 := Aside0.mk hi102_0
          have HC102_0 := Aside0.mk hl102_0
          clear hi102_0 hl102_0
          replace p102 := eq_true p102
          replace q102 := eq_true q102
          have ea_ := Option.some.inj (hx101_0.symm.trans hx102_0)
          injection ea_ with ea_ en_ ec_
          subst ea_
          subst ec_
          clear en_
          have p103 : 0 ≤ (x5_2 : Int) := of_decide_eq_true (by first | (with_reducible assumption) | assumption)
          have q103 : x5_2 < ((rd_L2 l0 x4_1).length : Int) := of_decide_eq_true (by first | (with_reducible assumption) | assumption)
          obtain ⟨ad103, e103, hx103_0, hx103_1⟩ := at_T24 HR102_0.out x5_2 p103 q103
          cases e103
          replace hx103_0 := (HB.out.cell (World.block_lt_of_cell? w _ hx103_0)).trans hx103_0
          replace hx103_1 := (HB.out.cell (World.block_lt_of_cell? w _ hx103_1)).trans hx103_1
          replace p103 := eq_true p103
          replace q103 := eq_true q103
          have p104 : 0 ≤ (x4_1 : Int) := of_decide_eq_true (by first | (with_reducible assumption) | assumption)
          have q104 : x4_1 < (l0.length : Int) := of_decide_eq_true (by first | (with_reducible assumption) | assumption)
          obtain ⟨ad104, A104_0, c104_0, e104, hx104_0, hl104_0, hi104_0⟩ := at_L2 HR0.out x4_1 p104 q104
          obtain rfl : ad101 = ad104 := (by injection e104)
          replace hx104_0 := (HB.out.cell (World.block_lt_of_cell? w _ hx104_0)).trans hx104_0
          have HR104_0 := Aside0.mk hi104_0
          have HC104_0 := Aside0.mk hl104_0
          clear hi104_0 hl104_0
          replace p104 := eq_true p104
          replace q104 := eq_true q104
          have ea_ := Option.some.inj (hx101_0.symm.trans hx104_0)
          injection ea_ with ea_ en_ ec_
          subst ea_
          subst ec_
          clear en_
          have p105 : 0 ≤ (x5_2 : Int) := of_decide_eq_true (by first | (with_reducible assumption) | assumption)
          have q105 : x5_2 < ((rd_L2 l0 x4_1).length : Int) := of_decide_eq_true (by first | (with_reducible assumption) | assumption)
          obtain ⟨ad105, e105, hx105_0, hx105_1⟩ := at_T24 HR104_0.out x5_2 p105 q105
          cases e105
          replace hx105_0 := (HB.out.cell (World.block_lt_of_cell? w _ hx105_0)).trans hx105_0
          replace hx105_1 := (HB.out.cell (World.block_lt_of_cell? w _ hx105_1)).trans hx105_1
          replace p105 := eq_true p105
          replace q105 := eq_true q105
          go_upto_if 40 with (fail)
          go_cut [6] (fun v6 wc => ∃ (kq : Nat) (x6_6 : Int), v6 = .int .i64 x6_6 ∧ Aside0 (barrowref01_marks.j2 kq l0 x3_2 x4_1 x5_2 x6_6 ((rd_T24 (rd_L2 l0 x4_1) x5_2).f1) = some r) ∧ Aside0 (kq ≤ k2) ∧ Aside0 (Kd.R k40 40 wc w.heap.size (fun _ => True) u3 x3_2) ∧ Aside0 (Below w.heap.size w wc))
          case first =>
           have H := HC7.out
           clear HC7
           by_cases c8 : ((rd_T24 (rd_L2 l0 x4_1) x5_2).f0) < 1
           ·rw [if_pos c8] at H
            have c8b0 : decide (((rd_T24 (rd_L2 l0 x4_1) x5_2).f0) < 1) = true := decide_eq_true c8
            clear c8
            (first | rw [c8b0] | (simp only [i64_w, i32_w]; rw [c8b0]) | skip)
            have H' := Aside0.mk H
            clear H
            go_wp2
            go_meet
            case rel => exact ⟨_, (1), (by first | rfl | (simp; done) | (simp [*]; done)), H', ⟨by have := HK1.out; have := HK2.out; first | omega | exact Nat.le_refl _⟩, ⟨by (with_reducible repeat (first | apply Kd.R_alloc | apply Kd.R_drewN | apply Kd.R_drew)); exact HO_3.out⟩, ⟨by repeat (first | (with_reducible first | exact HB.out | apply below_alloc | apply pw_below_drewN | apply below_drew1) | exact HB.out)⟩⟩
           ·rw [if_neg c8] at H
            have c8b0 : decide (((rd_T24 (rd_L2 l0 x4_1) x5_2).f0) < 1) = false := decide_eq_false c8
            clear c8
            (first | rw [c8b0] | (simp only [i64_w, i32_w]; rw [c8b0]) | skip)
            have H' := Aside0.mk H
            clear H
            go_wp2
            go_meet
            case rel => exact ⟨_, ((rd_T24 (rd_L2 l0 x4_1) x5_2).f0), (by first | rfl | (simp; done) | (simp [*]; done)), H', ⟨by have := HK1.out; have := HK2.out; first | omega | exact Nat.le_refl _⟩, ⟨by (with_reducible repeat (first | apply Kd.R_alloc | apply Kd.R_drewN | apply Kd.R_drew)); exact HO_3.out⟩, ⟨by repeat (first | (with_reducible first | exact HB.out | apply below_alloc | apply pw_below_drewN | apply below_drew1) | exact HB.out)⟩⟩
          case rest =>
           clear HC7
           try clear c1
           try clear p1
           try clear q1
           try clear hx1
           try clear c2
           try clear c2b0
           try clear p2
           try clear c3
           try clear c3b0
           try clear c4
           try clear c4b0
           try clear c5
           try clear c5b0
           try clear c6
           try clear c6b0
           try clear c8
           try clear c8b0
           try clear hx101_0
           try clear hx102_0
           try clear hx103_0
           try clear hx103_1
           try clear hx104_0
           try clear hx105_0
           try clear hx105_1
           try clear p101
           try clear p102
           try clear p103
           try clear p104
           try clear p105
           try clear p2
           try clear q101
           try clear q102
           try clear q103
           try clear q104
           try clear q105
           obtain ⟨kq, x6_6, rfl, HA, HJ6, HO_3, HB⟩ := hcut
           cases kq with
           | zero => exact absurd HA.out (by simp [barrowref01_marks.j2])
           | succ kj6 =>
            have H := HA.out
            clear HA
            simp only [barrowref01_marks.j2] at H
            by_cases c9 : ((rd_T24 (rd_L2 l0 x4_1) x5_2).f1) > 1000000000
            ·rw [if_pos c9] at H
             have c9b0 : decide (1000000000 < ((rd_T24 (rd_L2 l0 x4_1) x5_2).f1)) = true := decide_eq_true c9
             clear c9
             by_cases c10 : x6_6 ≤ 1000000000
             ·rw [if_pos c10] at H
              have c10b0 : decide (x6_6 ≤ 1000000000) = true := decide_eq_true c10
              clear c10
              by_cases c11 : x3_2.length < 5864062014805
              ·rw [if_pos c11] at H
               have LMc11 := Aside0.mk c11
               clear c11
               obtain ⟨y106, hy106⟩ : ∃ y_ : List (S40), y_ = (x3_2 ++ [(⟨x6_6, x4_1, 1⟩ : S40)]) := ⟨_, rfl⟩
               replace H : (if y106.length < 5864062014805 then (barrowref01_marks.l1 kj6 l0 (y106 ++ [(⟨1000000000 + 1, x4_1, (-1)⟩ : S40)]) x4_1 (wrap64 (x5_2 + 1))) else (none)) = some r := by first | (rw [hy106]; with_reducible exact H) | (have H2_ := (Option.bind_some _ _).symm.trans H; rw [hy106]; with_reducible exact H2_) | (have H2_ := (Option.bind_some _ _).symm.trans H; with_reducible exact H2_) | with_reducible exact H | (rw [hy106]; exact H) | exact H
               have Ny106 := Aside0.mk hy106
               clear hy106
               by_cases c12 : y106.length < 5864062014805
               ·rw [if_pos c12] at H
                have LMc12 := Aside0.mk c12
                clear c12
                obtain ⟨y109, hy109⟩ : ∃ y_ : List (S40), y_ = (y106 ++ [(⟨1000000000 + 1, x4_1, (-1)⟩ : S40)]) := ⟨_, rfl⟩
                replace H : (barrowref01_marks.l1 kj6 l0 y109 x4_1 (wrap64 (x5_2 + 1))) = some r := by first | (rw [hy109]; with_reducible exact H) | (have H2_ := (Option.bind_some _ _).symm.trans H; rw [hy109]; with_reducible exact H2_) | (have H2_ := (Option.bind_some _ _).symm.trans H; with_reducible exact H2_) | with_reducible exact H | (rw [hy109]; exact H) | exact H
                have Ny109 := Aside0.mk hy109
                clear hy109
                have H' := Aside0.mk H
                clear H
                go_wp2_with (first | ((with_reducible refine gate_builtin (b := .append) (xs := #[.tmp 46, .tmp 50]) rfl ?_); at_builtin; refine Kd.R_append k40 (w0 := w) w.heap.size rfl (.tmp 46) (.tmp 50) 36 40 (.agg #[(.int .i64 0), (.int .i64 0), (.int .i64 0)]) 24 rfl Try.underlying36 info40 rfl (by decide) (by omega) u3 x3_2 (⟨x6_6, x4_1, 1⟩ : S40) [.int .i64 x6_6, .int .i64 x4_1, .int .i64 1] (fun _ => True) (fun _ => False) rfl rfl ?aP (fun _ hk => hk.elim) ?aF ?aO ?aB ?aS ?aL ?_; (case aP => exact k40_mkM _ _ _ (⟨x6_6, x4_1, 1⟩ : S40)); (case aB => exact (by repeat (first | (with_reducible first | exact HB.out | apply below_alloc | apply pw_below_drewN | apply below_drew1) | exact HB.out))); (case aF => exact (fun _ _ => trivial)); (case aO => exact (by (with_reducible repeat (first | apply Kd.R_alloc | apply Kd.R_drewN | apply Kd.R_drew)); exact HO_3.out)); (case aS => exact (below_size (by repeat (first | (with_reducible first | exact HB.out | apply below_alloc | apply pw_below_drewN | apply below_drew1) | exact HB.out)))); (case aL => have := LMc11.out; omega); intro v107 w13 ho hb hg hat; rw [← Ny106.out] at ho; have n0_ := Aside0.mk (hb); have n1_ := Aside0.mk (ho); clear HB; clear HO_3; have HB := n0_; have HO108 := n1_; clear n0_ n1_; clear ho hb hg hat) | ((with_reducible refine gate_builtin (b := .append) (xs := #[.tmp 52, .tmp 57]) rfl ?_); at_builtin; refine Kd.R_append k40 (w0 := w) w.heap.size rfl (.tmp 52) (.tmp 57) 36 40 (.agg #[(.int .i64 0), (.int .i64 0), (.int .i64 0)]) 24 rfl Try.underlying36 info40 rfl (by decide) (by omega) v107 y106 (⟨1000000000 + 1, x4_1, (-1)⟩ : S40) [.int .i64 (1000000000 + 1), .int .i64 x4_1, .int .i64 (-1)] (fun _ => True) (fun _ => False) rfl rfl ?aP (fun _ hk => hk.elim) ?aF ?aO ?aB ?aS ?aL ?_; (case aP => exact k40_mkM _ _ _ (⟨1000000000 + 1, x4_1, (-1)⟩ : S40)); (case aB => exact (by repeat (first | (with_reducible first | exact HB.out | apply below_alloc | apply pw_below_drewN | apply below_drew1) | exact HB.out))); (case aF => exact (fun _ _ => trivial)); (case aO => exact (by (with_reducible repeat (first | apply Kd.R_alloc | apply Kd.R_drewN | apply Kd.R_drew)); exact HO108.out)); (case aS => exact (below_size (by repeat (first | (with_reducible first | exact HB.out | apply below_alloc | apply pw_below_drewN | apply below_drew1) | exact HB.out)))); (case aL => have := LMc12.out; omega); intro v110 w14 ho hb hg hat; rw [← Ny109.out] at ho; have n0_ := Aside0.mk (hb); have n1_ := Aside0.mk (ho); clear HB; clear HO108; have HB := n0_; have HO111 := n1_; clear n0_ n1_; clear ho hb hg hat))
                go_roundg kj6
                case measure => have := HK1.out; have := HK2.out; have := HJ6.out; omega
                case rel => exact ⟨(y109), (wrap64 (x5_2 + 1)), (by first | rfl | (simp; done) | (simp [*]; done)), H', ⟨by have := HK1.out; have := HK2.out; have := HJ6.out; omega⟩, ⟨by (with_reducible repeat (first | apply Kd.R_alloc | apply Kd.R_drewN | apply Kd.R_drew)); exact HO111.out⟩, ⟨by repeat (first | (with_reducible first | exact HB.out | apply below_alloc | apply pw_below_drewN | apply below_drew1) | exact HB.out)⟩⟩
               ·rw [if_neg c12] at H
                exact absurd H (by simp)
              ·rw [if_neg c11] at H
               exact absurd H (by simp)
             ·rw [if_neg c10] at H
              have c10b0 : decide (x6_6 ≤ 1000000000) = false := decide_eq_false c10
              clear c10
              have H' := Aside0.mk H
              clear H
              go_wp2
              go_roundg kj6
              case measure => have := HK1.out; have := HK2.out; have := HJ6.out; omega
              case rel => exact ⟨(x3_2), (wrap64 (x5_2 + 1)), (by first | rfl | (simp; done) | (simp [*]; done)), H', ⟨by have := HK1.out; have := HK2.out; have := HJ6.out; omega⟩, ⟨by (with_reducible repeat (first | apply Kd.R_alloc | apply Kd.R_drewN | apply Kd.R_drew)); exact HO_3.out⟩, ⟨by repeat (first | (with_reducible first | exact HB.out | apply below_alloc | apply pw_below_drewN | apply below_drew1) | exact HB.out)⟩⟩
            ·rw [if_neg c9] at H
             have c9b0 : decide (1000000000 < ((rd_T24 (rd_L2 l0 x4_1) x5_2).f1)) = false := decide_eq_false c9
             clear c9
             by_cases c15 : x6_6 ≤ ((rd_T24 (rd_L2 l0 x4_1) x5_2).f1)
             ·rw [if_pos c15] at H
              have c15b0 : decide (x6_6 ≤ ((rd_T24 (rd_L2 l0 x4_1) x5_2).f1)) = true := decide_eq_true c15
              clear c15
              by_cases c16 : x3_2.length < 5864062014805
              ·rw [if_pos c16] at H
               have LMc16 := Aside0.mk c16
               clear c16
               obtain ⟨y112, hy112⟩ : ∃ y_ : List (S40), y_ = (x3_2 ++ [(⟨x6_6, x4_1, 1⟩ : S40)]) := ⟨_, rfl⟩
               replace H : (if y112.length < 5864062014805 then (barrowref01_marks.l1 kj6 l0 (y112 ++ [(⟨wrap64 (((rd_T24 (rd_L2 l0 x4_1) x5_2).f1) + 1), x4_1, (-1)⟩ : S40)]) x4_1 (wrap64 (x5_2 + 1))) else (none)) = some r := by first | (rw [hy112]; with_reducible exact H) | (have H2_ := (Option.bind_some _ _).symm.trans H; rw [hy112]; with_reducible exact H2_) | (have H2_ := (Option.bind_some _ _).symm.trans H; with_reducible exact H2_) | with_reducible exact H | (rw [hy112]; exact H) | exact H
               have Ny112 := Aside0.mk hy112
               clear hy112
               by_cases c17 : y112.length < 5864062014805
               ·rw [if_pos c17] at H
                have LMc17 := Aside0.mk c17
                clear c17
                obtain ⟨y115, hy115⟩ : ∃ y_ : List (S40), y_ = (y112 ++ [(⟨wrap64 (((rd_T24 (rd_L2 l0 x4_1) x5_2).f1) + 1), x4_1, (-1)⟩ : S40)]) := ⟨_, rfl⟩
                replace H : (barrowref01_marks.l1 kj6 l0 y115 x4_1 (wrap64 (x5_2 + 1))) = some r := by first | (rw [hy115]; with_reducible exact H) | (have H2_ := (Option.bind_some _ _).symm.trans H; rw [hy115]; with_reducible exact H2_) | (have H2_ := (Option.bind_some _ _).symm.trans H; with_reducible exact H2_) | with_reducible exact H | (rw [hy115]; exact H) | exact H
                have Ny115 := Aside0.mk hy115
                clear hy115
                have H' := Aside0.mk H
                clear H
                go_wp2_with (first | ((with_reducible refine gate_builtin (b := .append) (xs := #[.tmp 46, .tmp 50]) rfl ?_); at_builtin; refine Kd.R_append k40 (w0 := w) w.heap.size rfl (.tmp 46) (.tmp 50) 36 40 (.agg #[(.int .i64 0), (.int .i64 0), (.int .i64 0)]) 24 rfl Try.underlying36 info40 rfl (by decide) (by omega) u3 x3_2 (⟨x6_6, x4_1, 1⟩ : S40) [.int .i64 x6_6, .int .i64 x4_1, .int .i64 1] (fun _ => True) (fun _ => False) rfl rfl ?aP (fun _ hk => hk.elim) ?aF ?aO ?aB ?aS ?aL ?_; (case aP => exact k40_mkM _ _ _ (⟨x6_6, x4_1, 1⟩ : S40)); (case aB => exact (by repeat (first | (with_reducible first | exact HB.out | apply below_alloc | apply pw_below_drewN | apply below_drew1) | exact HB.out))); (case aF => exact (fun _ _ => trivial)); (case aO => exact (by (with_reducible repeat (first | apply Kd.R_alloc | apply Kd.R_drewN | apply Kd.R_drew)); exact HO_3.out)); (case aS => exact (below_size (by repeat (first | (with_reducible first | exact HB.out | apply below_alloc | apply pw_below_drewN | apply below_drew1) | exact HB.out)))); (case aL => have := LMc16.out; omega); intro v113 w18 ho hb hg hat; rw [← Ny112.out] at ho; have n0_ := Aside0.mk (hb); have n1_ := Aside0.mk (ho); clear HB; clear HO_3; have HB := n0_; have HO114 := n1_; clear n0_ n1_; clear ho hb hg hat) | ((with_reducible refine gate_builtin (b := .append) (xs := #[.tmp 52, .tmp 57]) rfl ?_); at_builtin; refine Kd.R_append k40 (w0 := w) w.heap.size rfl (.tmp 52) (.tmp 57) 36 40 (.agg #[(.int .i64 0), (.int .i64 0), (.int .i64 0)]) 24 rfl Try.underlying36 info40 rfl (by decide) (by omega) v113 y112 (⟨wrap64 (((rd_T24 (rd_L2 l0 x4_1) x5_2).f1) + 1), x4_1, (-1)⟩ : S40) [.int .i64 (wrap64 (((rd_T24 (rd_L2 l0 x4_1) x5_2).f1) + 1)), .int .i64 x4_1, .int .i64 (-1)] (fun _ => True) (fun _ => False) rfl rfl ?aP (fun _ hk => hk.elim) ?aF ?aO ?aB ?aS ?aL ?_; (case aP => exact k40_mkM _ _ _ (⟨wrap64 (((rd_T24 (rd_L2 l0 x4_1) x5_2).f1) + 1), x4_1, (-1)⟩ : S40)); (case aB => exact (by repeat (first | (with_reducible first | exact HB.out | apply below_alloc | apply pw_below_drewN | apply below_drew1) | exact HB.out))); (case aF => exact (fun _ _ => trivial)); (case aO => exact (by (with_reducible repeat (first | apply Kd.R_alloc | apply Kd.R_drewN | apply Kd.R_drew)); exact HO114.out)); (case aS => exact (below_size (by repeat (first | (with_reducible first | exact HB.out | apply below_alloc | apply pw_below_drewN | apply below_drew1) | exact HB.out)))); (case aL => have := LMc17.out; omega); intro v116 w19 ho hb hg hat; rw [← Ny115.out] at ho; have n0_ := Aside0.mk (hb); have n1_ := Aside0.mk (ho); clear HB; clear HO114; have HB := n0_; have HO117 := n1_; clear n0_ n1_; clear ho hb hg hat))
                go_roundg kj6
                case measure => have := HK1.out; have := HK2.out; have := HJ6.out; omega
                case rel => exact ⟨(y115), (wrap64 (x5_2 + 1)), (by first | rfl | (simp; done) | (simp [*]; done)), H', ⟨by have := HK1.out; have := HK2.out; have := HJ6.out; omega⟩, ⟨by (with_reducible repeat (first | apply Kd.R_alloc | apply Kd.R_drewN | apply Kd.R_drew)); exact HO117.out⟩, ⟨by repeat (first | (with_reducible first | exact HB.out | apply below_alloc | apply pw_below_drewN | apply below_drew1) | exact HB.out)⟩⟩
               ·rw [if_neg c17] at H
                exact absurd H (by simp)
              ·rw [if_neg c16] at H
               exact absurd H (by simp)
             ·rw [if_neg c15] at H
              have c15b0 : decide (x6_6 ≤ ((rd_T24 (rd_L2 l0 x4_1) x5_2).f1)) = false := decide_eq_false c15
              clear c15
              have H' := Aside0.mk H
              clear H
              go_wp2
              go_roundg kj6
              case measure => have := HK1.out; have := HK2.out; have := HJ6.out; omega
              case rel => exact ⟨(x3_2), (wrap64 (x5_2 + 1)), (by first | rfl | (simp; done) | (simp [*]; done)), H', ⟨by have := HK1.out; have := HK2.out; have := HJ6.out; omega⟩, ⟨by (with_reducible repeat (first | apply Kd.R_alloc | apply Kd.R_drewN | apply Kd.R_drew)); exact HO_3.out⟩, ⟨by repeat (first | (with_reducible first | exact HB.out | apply below_alloc | apply pw_below_drewN | apply below_drew1) | exact HB.out)⟩⟩
         ·rw [if_neg c6] at H
          exact absurd H (by simp)
        ·rw [if_neg c5] at H
         have c5b0 : decide (x5_2 < ((rd_L2 l0 x4_1).length : Int)) = false := decide_eq_false c5
         clear c5
         have H' := Aside0.mk H
         clear H
         have p101 : 0 ≤ (x4_1 : Int) := of_decide_eq_true (by first | (with_reducible assumption) | assumption)
         have q101 : x4_1 < (l0.length : Int) := of_decide_eq_true (by first | (with_reducible assumption) | assumption)
         obtain ⟨ad101, A101_0, c101_0, e101, hx101_0, hl101_0, hi101_0⟩ := at_L2 HR0.out x4_1 p101 q101
         cases e101
         replace hx101_0 := (HB.out.cell (World.block_lt_of_cell? w _ hx101_0)).trans hx101_0
         have HR101_0 := Aside0.mk hi101_0
         have HC101_0 := Aside0.mk hl101_0
         clear hi101_0 hl101_0
         replace p101 := eq_true p101
         replace q101 := eq_true q101
         go_wp2
         go_roundg k2
         case measure => have := HK1.out; have := HK2.out; omega
         case rel => exact ⟨(x3_2), (wrap64 (x4_1 + 1)), (by first | rfl | (simp; done) | (simp [*]; done)), H', ⟨by have := HK1.out; have := HK2.out; omega⟩, ⟨by (with_reducible repeat (first | apply Kd.R_alloc | apply Kd.R_drewN | apply Kd.R_drew)); exact HO_3.out⟩, ⟨by repeat (first | (with_reducible first | exact HB.out | apply below_alloc | apply pw_below_drewN | apply below_drew1) | exact HB.out)⟩⟩
       ·rw [if_neg c4] at H
        exact absurd H (by simp)
      ·rw [if_neg c3] at H
       exact absurd H (by simp)
   ·rw [if_neg c2] at H
    have c2b0 : decide (x4_1 < (l0.length : Int)) = false := decide_eq_false c2
    clear c2
    obtain rfl := Option.some.inj H
    go_wp2
    go_ret
    exact ⟨_, by first | rfl | (simp [errW_none, errW_some] <;> rfl) | (simp [*, errW_none, errW_some] <;> rfl), by (with_reducible repeat (first | apply Kd.R_alloc | apply Kd.R_drewN | apply Kd.R_drew)); exact HO_3.out, by repeat (first | (with_reducible first | exact HB.out | apply below_alloc | apply pw_below_drewN | apply below_drew1) | exact HB.out)⟩

end Go.Proofs.Ytcblhfnjcanliaa.G
