-- PRINTED by print.py (a twelfth state) out of the translation. Not trusted: Lean checks it.
import Derived.Test.YteldhpneegccjaaGx0
namespace Go.Proofs.Yteldhpneegccjaa.G
open Go.RowKit Go.Proofs.YteldhpneegccjaaW.PrintWords Go.Proofs.YteldhpneegccjaaW.PrintLast Go.Proofs.YteldhpneegccjaaW.PrintMore
attribute [local go_sem] max2_int min2_int max_two min_two max_three min_three max_four min_four   -- for this text's walks alone
set_option linter.unusedVariables false
set_option linter.unusedSimpArgs false

/-! ### barrowref01_First: function 46 -/
mutual
def barrowref01_First.l0 : Nat → List (S26) → Int → Int → Int → Option (Int)
 | 0, _, _, _, _ => none
 | k + 1, x0, x1, x5, x6 => if x6 < (x0.length : Int) then (if 0 ≤ x6 then (if ((rd_T26 x0 x6).f0) < 1 then (barrowref01_First.j1 k x0 x1 x5 x6 1 ((rd_T26 x0 x6).f1)) else (barrowref01_First.j1 k x0 x1 x5 x6 ((rd_T26 x0 x6).f0) ((rd_T26 x0 x6).f1))) else (none)) else (some x5)
def barrowref01_First.j1 : Nat → List (S26) → Int → Int → Int → Int → Int → Option (Int)
 | 0, _, _, _, _, _, _ => none
 | k + 1, x0, x1, x5, x6, x7, x8 => if x7 < x1 then (barrowref01_First.j2 k x0 x1 x5 x6 x1 x8) else (barrowref01_First.j2 k x0 x1 x5 x6 x7 x8)
def barrowref01_First.j2 : Nat → List (S26) → Int → Int → Int → Int → Int → Option (Int)
 | 0, _, _, _, _, _, _ => none
 | k + 1, x0, x1, x5, x6, x7, x8 => if x8 > 1000000000 then (if x7 ≤ 1000000000 then (if x5 = 0 then (barrowref01_First.l0 k x0 x1 x7 (wrap64 (x6 + 1))) else (if x7 < x5 then (barrowref01_First.l0 k x0 x1 x7 (wrap64 (x6 + 1))) else (barrowref01_First.l0 k x0 x1 x5 (wrap64 (x6 + 1))))) else (barrowref01_First.l0 k x0 x1 x5 (wrap64 (x6 + 1)))) else (if x7 ≤ x8 then (if x5 = 0 then (barrowref01_First.l0 k x0 x1 x7 (wrap64 (x6 + 1))) else (if x7 < x5 then (barrowref01_First.l0 k x0 x1 x7 (wrap64 (x6 + 1))) else (barrowref01_First.l0 k x0 x1 x5 (wrap64 (x6 + 1))))) else (barrowref01_First.l0 k x0 x1 x5 (wrap64 (x6 + 1))))
end
def barrowref01_First.f (k : Nat) (l0 : List (S26)) (a1 : Int) : Option (Int) := barrowref01_First.l0 k l0 a1 0 0
theorem barrowref01_First.mono_l : ∀ k, (∀ y0 y1 y2 y3, LeO (barrowref01_First.l0 k y0 y1 y2 y3) (barrowref01_First.l0 (k + 1) y0 y1 y2 y3)) ∧ (∀ y0 y1 y2 y3 y4 y5, LeO (barrowref01_First.j1 k y0 y1 y2 y3 y4 y5) (barrowref01_First.j1 (k + 1) y0 y1 y2 y3 y4 y5)) ∧ (∀ y0 y1 y2 y3 y4 y5, LeO (barrowref01_First.j2 k y0 y1 y2 y3 y4 y5) (barrowref01_First.j2 (k + 1) y0 y1 y2 y3 y4 y5))
 | 0 => ⟨fun _ _ _ _ r h => by simp [barrowref01_First.l0] at h, fun _ _ _ _ _ _ r h => by simp [barrowref01_First.j1] at h, fun _ _ _ _ _ _ r h => by simp [barrowref01_First.j2] at h⟩
 | k + 1 => by
  obtain ⟨ih0, ih1, ih2⟩ := barrowref01_First.mono_l k
  refine ⟨?_, ?_, ?_⟩
  ·intro y0 y1 y2 y3
   unfold barrowref01_First.l0
   repeat' first
   | (with_reducible exact ih0 _ _ _ _)
   | (with_reducible exact ih1 _ _ _ _ _ _)
   | (with_reducible exact ih2 _ _ _ _ _ _)
   | (with_reducible exact LeO.refl _)
   | (with_reducible exact LeO.none _)
   | (with_reducible refine LeO.ite ?_ ?_)
   | (with_reducible refine LeO.bind ?_ (fun _ => ?_))
   | exact ih0 _ _ _ _
   | exact ih1 _ _ _ _ _ _
   | exact ih2 _ _ _ _ _ _
   | exact LeO.none _
   | refine LeO.ite ?_ ?_
   | refine LeO.bind ?_ (fun _ => ?_)
  ·intro y0 y1 y2 y3 y4 y5
   unfold barrowref01_First.j1
   repeat' first
   | (with_reducible exact ih0 _ _ _ _)
   | (with_reducible exact ih1 _ _ _ _ _ _)
   | (with_reducible exact ih2 _ _ _ _ _ _)
   | (with_reducible exact LeO.refl _)
   | (with_reducible exact LeO.none _)
   | (with_reducible refine LeO.ite ?_ ?_)
   | (with_reducible refine LeO.bind ?_ (fun _ => ?_))
   | exact ih0 _ _ _ _
   | exact ih1 _ _ _ _ _ _
   | exact ih2 _ _ _ _ _ _
   | exact LeO.none _
   | refine LeO.ite ?_ ?_
   | refine LeO.bind ?_ (fun _ => ?_)
  ·intro y0 y1 y2 y3 y4 y5
   unfold barrowref01_First.j2
   repeat' first
   | (with_reducible exact ih0 _ _ _ _)
   | (with_reducible exact ih1 _ _ _ _ _ _)
   | (with_reducible exact ih2 _ _ _ _ _ _)
   | (with_reducible exact LeO.refl _)
   | (with_reducible exact LeO.none _)
   | (with_reducible refine LeO.ite ?_ ?_)
   | (with_reducible refine LeO.bind ?_ (fun _ => ?_))
   | exact ih0 _ _ _ _
   | exact ih1 _ _ _ _ _ _
   | exact ih2 _ _ _ _ _ _
   | exact LeO.none _
   | refine LeO.ite ?_ ?_
   | refine LeO.bind ?_ (fun _ => ?_)
theorem barrowref01_First.mono : ∀ a0 a1 k, LeO (barrowref01_First.f k a0 a1) (barrowref01_First.f (k + 1) a0 a1) := by
 intro a0 a1 k
 obtain ⟨ih0, ih1, ih2⟩ := barrowref01_First.mono_l k
 unfold barrowref01_First.f
 repeat' first
   | (with_reducible exact ih0 _ _ _ _)
   | (with_reducible exact ih1 _ _ _ _ _ _)
   | (with_reducible exact ih2 _ _ _ _ _ _)
   | (with_reducible exact LeO.refl _)
   | (with_reducible exact LeO.none _)
   | (with_reducible refine LeO.ite ?_ ?_)
   | (with_reducible refine LeO.bind ?_ (fun _ => ?_))
   | exact ih0 _ _ _ _
   | exact ih1 _ _ _ _ _ _
   | exact ih2 _ _ _ _ _ _
   | exact LeO.none _
   | refine LeO.ite ?_ ?_
   | refine LeO.bind ?_ (fun _ => ?_)
set_option maxHeartbeats 8000000 in
set_option maxRecDepth 100000 in
theorem barrowref01_First.calls (k : Nat) (A0 : Option Addr) (c0 : Nat) (l0 : List (S26)) (a1 : Int) (r : Int) (w : World) (hr0 : Kd.C k26 w A0 l0.length l0) (hc0 : l0.length ≤ c0) (h : barrowref01_First.f k l0 a1 = some r) :
  Calls Try.prog 46 #[.slice A0 l0.length c0, .int .i64 a1] w fun e w' => e = .returned (.int .i64 r) ∧ Drawn0 w w' := by
 have HR0 := Aside0.mk hr0
 have HC0 := Aside0.mk hc0
 clear hr0 hc0
 have H : (barrowref01_First.l0 k l0 a1 0 0) = some r := h
 clear h
 have H' := Aside0.mk H
 clear H
 go_enter Try.func46, Try.ntmps46
 go_wp2
 go_loopg [5, 6] k (fun kq v5 v6 w' => ∃ (x5_1 : Int) (x6_1 : Int), v5 = .int .i64 x5_1 ∧ v6 = .int .i64 x6_1 ∧ Aside0 (barrowref01_First.l0 kq l0 a1 x5_1 x6_1 = some r) ∧ Aside0 (kq ≤ k) ∧ Drawn0 w w')
 case atStart => exact ⟨(0), (0), (by first | rfl | (simp; done) | (simp [*]; done)), (by first | rfl | (simp; done) | (simp [*]; done)), H', ⟨Nat.le_refl _⟩, by repeat (first | exact Drawn0.refl _ | apply Drawn0.step)⟩
 case round =>
  clear H'
  try clear p2
  obtain ⟨x5_1, x6_1, rfl, rfl, HA, HK1, ⟨m1, rfl⟩⟩ := hrel
  cases gk with
  | zero => exact absurd HA.out (by simp [barrowref01_First.l0])
  | succ k1 =>
   have H := HA.out
   clear HA
   simp only [barrowref01_First.l0] at H
   by_cases c3 : x6_1 < (l0.length : Int)
   ·rw [if_pos c3] at H
    have c3b0 : decide (x6_1 < (l0.length : Int)) = true := decide_eq_true c3
    clear c3
    by_cases c4 : 0 ≤ x6_1
    ·rw [if_pos c4] at H
     have c4b0 : decide (0 ≤ x6_1) = true := decide_eq_true c4
     clear c4
     have HC5 := Aside0.mk H
     clear H
     have p374 : 0 ≤ (x6_1 : Int) := of_decide_eq_true (by first | (with_reducible assumption) | assumption)
     have q374 : x6_1 < (l0.length : Int) := of_decide_eq_true (by first | (with_reducible assumption) | assumption)
     obtain ⟨ad374, e374, hx374_0, hx374_1⟩ := at_T26 HR0.out x6_1 p374 q374
     cases e374
     replace p374 := eq_true p374
     replace q374 := eq_true q374
     have p375 : 0 ≤ (x6_1 : Int) := of_decide_eq_true (by first | (with_reducible assumption) | assumption)
     have q375 : x6_1 < (l0.length : Int) := of_decide_eq_true (by first | (with_reducible assumption) | assumption)
     obtain ⟨ad375, e375, hx375_0, hx375_1⟩ := at_T26 HR0.out x6_1 p375 q375
     obtain rfl : ad374 = ad375 := (by injection e375)
     replace p375 := eq_true p375
     replace q375 := eq_true q375
     go_upto_if 26 with (fail)
     go_cut [7] (fun v7 wc => ∃ (kq : Nat) (x7_4 : Int), v7 = .int .i64 x7_4 ∧ Aside0 (barrowref01_First.j1 kq l0 a1 x5_1 x6_1 x7_4 ((rd_T26 l0 x6_1).f1) = some r) ∧ Aside0 (kq ≤ k1) ∧ Drawn0 w wc)
     case first =>
      have H := HC5.out
      clear HC5
      by_cases c6 : ((rd_T26 l0 x6_1).f0) < 1
      ·rw [if_pos c6] at H
       have c6b0 : decide (((rd_T26 l0 x6_1).f0) < 1) = true := decide_eq_true c6
       clear c6
       (first | rw [c6b0] | (simp only [i64_w, i32_w]; rw [c6b0]) | skip)
       have H' := Aside0.mk H
       clear H
       go_wp2
       go_meet
       case rel => exact ⟨_, (1), (by first | rfl | (simp; done) | (simp [*]; done)), H', ⟨by have := HK1.out; first | omega | exact Nat.le_refl _⟩, by repeat (first | exact Drawn0.refl _ | apply Drawn0.step)⟩
      ·rw [if_neg c6] at H
       have c6b0 : decide (((rd_T26 l0 x6_1).f0) < 1) = false := decide_eq_false c6
       clear c6
       (first | rw [c6b0] | (simp only [i64_w, i32_w]; rw [c6b0]) | skip)
       have H' := Aside0.mk H
       clear H
       go_wp2
       go_meet
       case rel => exact ⟨_, ((rd_T26 l0 x6_1).f0), (by first | rfl | (simp; done) | (simp [*]; done)), H', ⟨by have := HK1.out; first | omega | exact Nat.le_refl _⟩, by repeat (first | exact Drawn0.refl _ | apply Drawn0.step)⟩
     case rest =>
      clear HC5
      try clear p2
      try clear c3
      try clear c3b0
      try clear p3
      try clear q3
      try clear hx3
      try clear c4
      try clear c4b0
      try clear c6
      try clear c6b0
      try clear hx374_0
      try clear hx374_1
      try clear hx375_0
      try clear hx375_1
      try clear p2
      try clear p374
      try clear p375
      try clear q374
      try clear q375
      obtain ⟨kq, x7_4, rfl, HA, HJ4, ⟨mc4, rfl⟩⟩ := hcut
      cases kq with
      | zero => exact absurd HA.out (by simp [barrowref01_First.j1])
      | succ kj4 =>
       have H := HA.out
       clear HA
       simp only [barrowref01_First.j1] at H
       have HC7 := Aside0.mk H
       clear H
       go_upto_if 29 with (fail)
       go_cut [7] (fun v7 wc => ∃ (kq : Nat) (x7_6 : Int), v7 = .int .i64 x7_6 ∧ Aside0 (barrowref01_First.j2 kq l0 a1 x5_1 x6_1 x7_6 ((rd_T26 l0 x6_1).f1) = some r) ∧ Aside0 (kq ≤ kj4) ∧ Drawn0 w wc)
       case first =>
        have H := HC7.out
        clear HC7
        by_cases c8 : x7_4 < a1
        ·rw [if_pos c8] at H
         have c8b0 : decide (x7_4 < a1) = true := decide_eq_true c8
         clear c8
         (first | rw [c8b0] | (simp only [i64_w, i32_w]; rw [c8b0]) | skip)
         have H' := Aside0.mk H
         clear H
         go_wp2
         go_meet
         case rel => exact ⟨_, (a1), (by first | rfl | (simp; done) | (simp [*]; done)), H', ⟨by have := HK1.out; have := HJ4.out; first | omega | exact Nat.le_refl _⟩, by repeat (first | exact Drawn0.refl _ | apply Drawn0.step)⟩
        ·rw [if_neg c8] at H
         have c8b0 : decide (x7_4 < a1) = false := decide_eq_false c8
         clear c8
         (first | rw [c8b0] | (simp only [i64_w, i32_w]; rw [c8b0]) | skip)
         have H' := Aside0.mk H
         clear H
         go_wp2
         go_meet
         case rel => exact ⟨_, (x7_4), (by first | rfl | (simp; done) | (simp [*]; done)), H', ⟨by have := HK1.out; have := HJ4.out; first | omega | exact Nat.le_refl _⟩, by repeat (first | exact Drawn0.refl _ | apply Drawn0.step)⟩
       case rest =>
        clear HC7
        try clear p2
        try clear c3
        try clear c3b0
        try clear p3
        try clear q3
        try clear hx3
        try clear c4
        try clear c4b0
        try clear c6
        try clear c6b0
        try clear c8
        try clear c8b0
        try clear hx374_0
        try clear hx374_1
        try clear hx375_0
        try clear hx375_1
        try clear p2
        try clear p3
        try clear p374
        try clear p375
        try clear q3
        try clear q374
        try clear q375
        obtain ⟨kq, x7_6, rfl, HA, HJ6, ⟨mc6, rfl⟩⟩ := hcut
        cases kq with
        | zero => exact absurd HA.out (by simp [barrowref01_First.j2])
        | succ kj6 =>
         have H := HA.out
         clear HA
         simp only [barrowref01_First.j2] at H
         by_cases c9 : ((rd_T26 l0 x6_1).f1) > 1000000000
         ·rw [if_pos c9] at H
          have c9b0 : decide (1000000000 < ((rd_T26 l0 x6_1).f1)) = true := decide_eq_true c9
          clear c9
          by_cases c10 : x7_6 ≤ 1000000000
          ·rw [if_pos c10] at H
           have c10b0 : decide (x7_6 ≤ 1000000000) = true := decide_eq_true c10
           clear c10
           by_cases c11 : x5_1 = 0
           ·rw [if_pos c11] at H
            have c11b0 : (x5_1 == 0) = true := beq_iff_eq.mpr c11
            have c11b1 : (x5_1 != 0) = false := bne_eq_false_iff_eq.mpr c11
            clear c11
            have H' := Aside0.mk H
            clear H
            go_wp2
            go_roundg kj6
            case measure => have := HK1.out; have := HJ4.out; have := HJ6.out; omega
            case rel => exact ⟨(x7_6), (wrap64 (x6_1 + 1)), (by first | rfl | (simp; done) | (simp [*]; done)), (by first | rfl | (simp; done) | (simp [*]; done)), H', ⟨by have := HK1.out; have := HJ4.out; have := HJ6.out; omega⟩, by repeat (first | exact Drawn0.refl _ | apply Drawn0.step)⟩
           ·rw [if_neg c11] at H
            have c11b0 : (x5_1 == 0) = false := beq_eq_false_iff_ne.mpr c11
            have c11b1 : (x5_1 != 0) = true := bne_iff_ne.mpr c11
            by_cases c12 : x7_6 < x5_1
            ·rw [if_pos c12] at H
             have c12b0 : decide (x7_6 < x5_1) = true := decide_eq_true c12
             clear c12
             have H' := Aside0.mk H
             clear H
             go_wp2
             go_roundg kj6
             case measure => have := HK1.out; have := HJ4.out; have := HJ6.out; omega
             case rel => exact ⟨(x7_6), (wrap64 (x6_1 + 1)), (by first | rfl | (simp; done) | (simp [*]; done)), (by first | rfl | (simp; done) | (simp [*]; done)), H', ⟨by have := HK1.out; have := HJ4.out; have := HJ6.out; omega⟩, by repeat (first | exact Drawn0.refl _ | apply Drawn0.step)⟩
            ·rw [if_neg c12] at H
             have c12b0 : decide (x7_6 < x5_1) = false := decide_eq_false c12
             clear c12
             have H' := Aside0.mk H
             clear H
             go_wp2
             go_roundg kj6
             case measure => have := HK1.out; have := HJ4.out; have := HJ6.out; omega
             case rel => exact ⟨(x5_1), (wrap64 (x6_1 + 1)), (by first | rfl | (simp; done) | (simp [*]; done)), (by first | rfl | (simp; done) | (simp [*]; done)), H', ⟨by have := HK1.out; have := HJ4.out; have := HJ6.out; omega⟩, by repeat (first | exact Drawn0.refl _ | apply Drawn0.step)⟩
          ·rw [if_neg c10] at H
           have c10b0 : decide (x7_6 ≤ 1000000000) = false := decide_eq_false c10
           clear c10
           have H' := Aside0.mk H
           clear H
           go_wp2
           go_roundg kj6
           case measure => have := HK1.out; have := HJ4.out; have := HJ6.out; omega
           case rel => exact ⟨(x5_1), (wrap64 (x6_1 + 1)), (by first | rfl | (simp; done) | (simp [*]; done)), (by first | rfl | (simp; done) | (simp [*]; done)), H', ⟨by have := HK1.out; have := HJ4.out; have := HJ6.out; omega⟩, by repeat (first | exact Drawn0.refl _ | apply Drawn0.step)⟩
         ·rw [if_neg c9] at H
          have c9b0 : decide (1000000000 < ((rd_T26 l0 x6_1).f1)) = false := decide_eq_false c9
          clear c9
          by_cases c13 : x7_6 ≤ ((rd_T26 l0 x6_1).f1)
          ·rw [if_pos c13] at H
           have c13b0 : decide (x7_6 ≤ ((rd_T26 l0 x6_1).f1)) = true := decide_eq_true c13
           clear c13
           by_cases c14 : x5_1 = 0
           ·rw [if_pos c14] at H
            have c14b0 : (x5_1 == 0) = true := beq_iff_eq.mpr c14
            have c14b1 : (x5_1 != 0) = false := bne_eq_false_iff_eq.mpr c14
            clear c14
            have H' := Aside0.mk H
            clear H
            go_wp2
            go_roundg kj6
            case measure => have := HK1.out; have := HJ4.out; have := HJ6.out; omega
            case rel => exact ⟨(x7_6), (wrap64 (x6_1 + 1)), (by first | rfl | (simp; done) | (simp [*]; done)), (by first | rfl | (simp; done) | (simp [*]; done)), H', ⟨by have := HK1.out; have := HJ4.out; have := HJ6.out; omega⟩, by repeat (first | exact Drawn0.refl _ | apply Drawn0.step)⟩
           ·rw [if_neg c14] at H
            have c14b0 : (x5_1 == 0) = false := beq_eq_false_iff_ne.mpr c14
            have c14b1 : (x5_1 != 0) = true := bne_iff_ne.mpr c14
            by_cases c15 : x7_6 < x5_1
            ·rw [if_pos c15] at H
             have c15b0 : decide (x7_6 < x5_1) = true := decide_eq_true c15
             clear c15
             have H' := Aside0.mk H
             clear H
             go_wp2
             go_roundg kj6
             case measure => have := HK1.out; have := HJ4.out; have := HJ6.out; omega
             case rel => exact ⟨(x7_6), (wrap64 (x6_1 + 1)), (by first | rfl | (simp; done) | (simp [*]; done)), (by first | rfl | (simp; done) | (simp [*]; done)), H', ⟨by have := HK1.out; have := HJ4.out; have := HJ6.out; omega⟩, by repeat (first | exact Drawn0.refl _ | apply Drawn0.step)⟩
            ·rw [if_neg c15] at H
             have c15b0 : decide (x7_6 < x5_1) = false := decide_eq_false c15
             clear c15
             have H' := Aside0.mk H
             clear H
             go_wp2
             go_roundg kj6
             case measure => have := HK1.out; have := HJ4.out; have := HJ6.out; omega
             case rel => exact ⟨(x5_1), (wrap64 (x6_1 + 1)), (by first | rfl | (simp; done) | (simp [*]; done)), (by first | rfl | (simp; done) | (simp [*]; done)), H', ⟨by have := HK1.out; have := HJ4.out; have := HJ6.out; omega⟩, by repeat (first | exact Drawn0.refl _ | apply Drawn0.step)⟩
          ·rw [if_neg c13] at H
           have c13b0 : decide (x7_6 ≤ ((rd_T26 l0 x6_1).f1)) = false := decide_eq_false c13
           clear c13
           have H' := Aside0.mk H
           clear H
           go_wp2
           go_roundg kj6
           case measure => have := HK1.out; have := HJ4.out; have := HJ6.out; omega
           case rel => exact ⟨(x5_1), (wrap64 (x6_1 + 1)), (by first | rfl | (simp; done) | (simp [*]; done)), (by first | rfl | (simp; done) | (simp [*]; done)), H', ⟨by have := HK1.out; have := HJ4.out; have := HJ6.out; omega⟩, by repeat (first | exact Drawn0.refl _ | apply Drawn0.step)⟩
    ·rw [if_neg c4] at H
     exact absurd H (by simp)
   ·rw [if_neg c3] at H
    have c3b0 : decide (x6_1 < (l0.length : Int)) = false := decide_eq_false c3
    clear c3
    obtain rfl := Option.some.inj H
    go_wp2
    go_ret
    exact ⟨by first | rfl | (simp; done) | (simp [*]; done), by repeat (first | exact Drawn0.refl _ | apply Drawn0.step)⟩

end Go.Proofs.Yteldhpneegccjaa.G
