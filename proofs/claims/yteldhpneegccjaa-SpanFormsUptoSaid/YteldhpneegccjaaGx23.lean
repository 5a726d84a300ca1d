-- PRINTED by print.py (a twelfth state) out of the translation. Not trusted: Lean checks it.
import Derived.Test.YteldhpneegccjaaGx0
namespace Go.Proofs.Yteldhpneegccjaa.G
open Go.RowKit Go.Proofs.YteldhpneegccjaaW.PrintWords Go.Proofs.YteldhpneegccjaaW.PrintLast Go.Proofs.YteldhpneegccjaaW.PrintMore
attribute [local go_sem] max2_int min2_int max_two min_two max_three min_three max_four min_four   -- for this text's walks alone
set_option linter.unusedVariables false
set_option linter.unusedSimpArgs false

/-! ### barrowref01_Last: function 31 -/
def barrowref01_Last.l0 : Nat → List (S26) → Int → Int → Option (Int)
 | 0, _, _, _ => none
 | k + 1, x0, x3, x4 => if x4 < (x0.length : Int) then (if 0 ≤ x4 then (if ((rd_T26 x0 x4).f1) > 1000000000 then (if 1000000000 ≥ 1 then (if ((rd_T26 x0 x4).f0) ≤ 1000000000 then (if 1000000000 > x3 then (barrowref01_Last.l0 k x0 1000000000 (wrap64 (x4 + 1))) else (barrowref01_Last.l0 k x0 x3 (wrap64 (x4 + 1)))) else (barrowref01_Last.l0 k x0 x3 (wrap64 (x4 + 1)))) else (barrowref01_Last.l0 k x0 x3 (wrap64 (x4 + 1)))) else (if ((rd_T26 x0 x4).f1) ≥ 1 then (if ((rd_T26 x0 x4).f0) ≤ ((rd_T26 x0 x4).f1) then (if ((rd_T26 x0 x4).f1) > x3 then (barrowref01_Last.l0 k x0 ((rd_T26 x0 x4).f1) (wrap64 (x4 + 1))) else (barrowref01_Last.l0 k x0 x3 (wrap64 (x4 + 1)))) else (barrowref01_Last.l0 k x0 x3 (wrap64 (x4 + 1)))) else (barrowref01_Last.l0 k x0 x3 (wrap64 (x4 + 1))))) else (none)) else (some x3)
def barrowref01_Last.f (k : Nat) (l0 : List (S26)) : Option (Int) := barrowref01_Last.l0 k l0 0 0
theorem barrowref01_Last.mono_l : ∀ k, (∀ y0 y1 y2, LeO (barrowref01_Last.l0 k y0 y1 y2) (barrowref01_Last.l0 (k + 1) y0 y1 y2))
 | 0 => fun _ _ _ r h => by simp [barrowref01_Last.l0] at h
 | k + 1 => by
  have ih0 := barrowref01_Last.mono_l k
  ·intro y0 y1 y2
   unfold barrowref01_Last.l0
   repeat' first
   | (with_reducible exact ih0 _ _ _)
   | (with_reducible exact LeO.refl _)
   | (with_reducible exact LeO.none _)
   | (with_reducible refine LeO.ite ?_ ?_)
   | (with_reducible refine LeO.bind ?_ (fun _ => ?_))
   | exact ih0 _ _ _
   | exact LeO.none _
   | refine LeO.ite ?_ ?_
   | refine LeO.bind ?_ (fun _ => ?_)
theorem barrowref01_Last.mono : ∀ a0 k, LeO (barrowref01_Last.f k a0) (barrowref01_Last.f (k + 1) a0) := by
 intro a0 k
 have ih0 := barrowref01_Last.mono_l k
 unfold barrowref01_Last.f
 repeat' first
   | (with_reducible exact ih0 _ _ _)
   | (with_reducible exact LeO.refl _)
   | (with_reducible exact LeO.none _)
   | (with_reducible refine LeO.ite ?_ ?_)
   | (with_reducible refine LeO.bind ?_ (fun _ => ?_))
   | exact ih0 _ _ _
   | exact LeO.none _
   | refine LeO.ite ?_ ?_
   | refine LeO.bind ?_ (fun _ => ?_)
set_option maxHeartbeats 8000000 in
set_option maxRecDepth 100000 in
theorem barrowref01_Last.calls (k : Nat) (A0 : Option Addr) (c0 : Nat) (l0 : List (S26)) (r : Int) (w : World) (hr0 : Kd.C k26 w A0 l0.length l0) (hc0 : l0.length ≤ c0) (h : barrowref01_Last.f k l0 = some r) :
  Calls Try.prog 31 #[.slice A0 l0.length c0] w fun e w' => e = .returned (.int .i64 r) ∧ Drawn0 w w' := by
 have HR0 := Aside0.mk hr0
 have HC0 := Aside0.mk hc0
 clear hr0 hc0
 have H : (barrowref01_Last.l0 k l0 0 0) = some r := h
 clear h
 have H' := Aside0.mk H
 clear H
 go_enter Try.func31, Try.ntmps31
 go_wp2
 go_loopg [3, 4] k (fun kq v3 v4 w' => ∃ (x3_1 : Int) (x4_1 : Int), v3 = .int .i64 x3_1 ∧ v4 = .int .i64 x4_1 ∧ Aside0 (barrowref01_Last.l0 kq l0 x3_1 x4_1 = some r) ∧ Aside0 (kq ≤ k) ∧ Drawn0 w w')
 case atStart => exact ⟨(0), (0), (by first | rfl | (simp; done) | (simp [*]; done)), (by first | rfl | (simp; done) | (simp [*]; done)), H', ⟨Nat.le_refl _⟩, by repeat (first | exact Drawn0.refl _ | apply Drawn0.step)⟩
 case round =>
  clear H'
  obtain ⟨x3_1, x4_1, rfl, rfl, HA, HK1, ⟨m1, rfl⟩⟩ := hrel
  cases gk with
  | zero => exact absurd HA.out (by simp [barrowref01_Last.l0])
  | succ k1 =>
   have H := HA.out
   clear HA
   simp only [barrowref01_Last.l0] at H
   by_cases c2 : x4_1 < (l0.length : Int)
   ·rw [if_pos c2] at H
    have c2b0 : decide (x4_1 < (l0.length : Int)) = true := decide_eq_true c2
    clear c2
    by_cases c3 : 0 ≤ x4_1
    ·rw [if_pos c3] at H
     have c3b0 : decide (0 ≤ x4_1) = true := decide_eq_true c3
     clear c3
     by_cases c4 : ((rd_T26 l0 x4_1).f1) > 1000000000
     ·rw [if_pos c4] at H
      have c4b0 : decide (1000000000 < ((rd_T26 l0 x4_1).f1)) = true := decide_eq_true c4
      clear c4
      by_cases c5 : 1000000000 ≥ 1
      ·rw [if_pos c5] at H
       have c5b0 : decide (1 ≤ 1000000000) = true := decide_eq_true c5
       clear c5
       by_cases c6 : ((rd_T26 l0 x4_1).f0) ≤ 1000000000
       ·rw [if_pos c6] at H
        have c6b0 : decide (((rd_T26 l0 x4_1).f0) ≤ 1000000000) = true := decide_eq_true c6
        clear c6
        by_cases c7 : 1000000000 > x3_1
        ·rw [if_pos c7] at H
         have c7b0 : decide (x3_1 < 1000000000) = true := decide_eq_true c7
         clear c7
         have H' := Aside0.mk H
         clear H
         have p319 : 0 ≤ (x4_1 : Int) := of_decide_eq_true (by first | (with_reducible assumption) | assumption)
         have q319 : x4_1 < (l0.length : Int) := of_decide_eq_true (by first | (with_reducible assumption) | assumption)
         obtain ⟨ad319, e319, hx319_0, hx319_1⟩ := at_T26 HR0.out x4_1 p319 q319
         cases e319
         replace p319 := eq_true p319
         replace q319 := eq_true q319
         have p320 : 0 ≤ (x4_1 : Int) := of_decide_eq_true (by first | (with_reducible assumption) | assumption)
         have q320 : x4_1 < (l0.length : Int) := of_decide_eq_true (by first | (with_reducible assumption) | assumption)
         obtain ⟨ad320, e320, hx320_0, hx320_1⟩ := at_T26 HR0.out x4_1 p320 q320
         obtain rfl : ad319 = ad320 := (by injection e320)
         replace p320 := eq_true p320
         replace q320 := eq_true q320
         go_wp2
         go_roundg k1
         case measure => have := HK1.out; omega
         case rel => exact ⟨(1000000000), (wrap64 (x4_1 + 1)), (by first | rfl | (simp; done) | (simp [*]; done)), (by first | rfl | (simp; done) | (simp [*]; done)), H', ⟨by have := HK1.out; omega⟩, by repeat (first | exact Drawn0.refl _ | apply Drawn0.step)⟩
        ·rw [if_neg c7] at H
         have c7b0 : decide (x3_1 < 1000000000) = false := decide_eq_false c7
         clear c7
         have H' := Aside0.mk H
         clear H
         have p319 : 0 ≤ (x4_1 : Int) := of_decide_eq_true (by first | (with_reducible assumption) | assumption)
         have q319 : x4_1 < (l0.length : Int) := of_decide_eq_true (by first | (with_reducible assumption) | assumption)
         obtain ⟨ad319, e319, hx319_0, hx319_1⟩ := at_T26 HR0.out x4_1 p319 q319
         cases e319
         replace p319 := eq_true p319
         replace q319 := eq_true q319
         have p320 : 0 ≤ (x4_1 : Int) := of_decide_eq_true (by first | (with_reducible assumption) | assumption)
         have q320 : x4_1 < (l0.length : Int) := of_decide_eq_true (by first | (with_reducible assumption) | assumption)
         obtain ⟨ad320, e320, hx320_0, hx320_1⟩ := at_T26 HR0.out x4_1 p320 q320
         obtain rfl : ad319 = ad320 := (by injection e320)
         replace p320 := eq_true p320
         replace q320 := eq_true q320
         go_wp2
         go_roundg k1
         case measure => have := HK1.out; omega
         case rel => exact ⟨(x3_1), (wrap64 (x4_1 + 1)), (by first | rfl | (simp; done) | (simp [*]; done)), (by first | rfl | (simp; done) | (simp [*]; done)), H', ⟨by have := HK1.out; omega⟩, by repeat (first | exact Drawn0.refl _ | apply Drawn0.step)⟩
       ·rw [if_neg c6] at H
        have c6b0 : decide (((rd_T26 l0 x4_1).f0) ≤ 1000000000) = false := decide_eq_false c6
        clear c6
        have H' := Aside0.mk H
        clear H
        have p319 : 0 ≤ (x4_1 : Int) := of_decide_eq_true (by first | (with_reducible assumption) | assumption)
        have q319 : x4_1 < (l0.length : Int) := of_decide_eq_true (by first | (with_reducible assumption) | assumption)
        obtain ⟨ad319, e319, hx319_0, hx319_1⟩ := at_T26 HR0.out x4_1 p319 q319
        cases e319
        replace p319 := eq_true p319
        replace q319 := eq_true q319
        have p320 : 0 ≤ (x4_1 : Int) := of_decide_eq_true (by first | (with_reducible assumption) | assumption)
        have q320 : x4_1 < (l0.length : Int) := of_decide_eq_true (by first | (with_reducible assumption) | assumption)
        obtain ⟨ad320, e320, hx320_0, hx320_1⟩ := at_T26 HR0.out x4_1 p320 q320
        obtain rfl : ad319 = ad320 := (by injection e320)
        replace p320 := eq_true p320
        replace q320 := eq_true q320
        go_wp2
        go_roundg k1
        case measure => have := HK1.out; omega
        case rel => exact ⟨(x3_1), (wrap64 (x4_1 + 1)), (by first | rfl | (simp; done) | (simp [*]; done)), (by first | rfl | (simp; done) | (simp [*]; done)), H', ⟨by have := HK1.out; omega⟩, by repeat (first | exact Drawn0.refl _ | apply Drawn0.step)⟩
      ·rw [if_neg c5] at H
       exact absurd (by decide) c5
     ·rw [if_neg c4] at H
      have c4b0 : decide (1000000000 < ((rd_T26 l0 x4_1).f1)) = false := decide_eq_false c4
      clear c4
      by_cases c8 : ((rd_T26 l0 x4_1).f1) ≥ 1
      ·rw [if_pos c8] at H
       have c8b0 : decide (1 ≤ ((rd_T26 l0 x4_1).f1)) = true := decide_eq_true c8
       clear c8
       by_cases c9 : ((rd_T26 l0 x4_1).f0) ≤ ((rd_T26 l0 x4_1).f1)
       ·rw [if_pos c9] at H
        have c9b0 : decide (((rd_T26 l0 x4_1).f0) ≤ ((rd_T26 l0 x4_1).f1)) = true := decide_eq_true c9
        clear c9
        by_cases c10 : ((rd_T26 l0 x4_1).f1) > x3_1
        ·rw [if_pos c10] at H
         have c10b0 : decide (x3_1 < ((rd_T26 l0 x4_1).f1)) = true := decide_eq_true c10
         clear c10
         have H' := Aside0.mk H
         clear H
         have p319 : 0 ≤ (x4_1 : Int) := of_decide_eq_true (by first | (with_reducible assumption) | assumption)
         have q319 : x4_1 < (l0.length : Int) := of_decide_eq_true (by first | (with_reducible assumption) | assumption)
         obtain ⟨ad319, e319, hx319_0, hx319_1⟩ := at_T26 HR0.out x4_1 p319 q319
         cases e319
         replace p319 := eq_true p319
         replace q319 := eq_true q319
         have p321 : 0 ≤ (x4_1 : Int) := of_decide_eq_true (by first | (with_reducible assumption) | assumption)
         have q321 : x4_1 < (l0.length : Int) := of_decide_eq_true (by first | (with_reducible assumption) | assumption)
         obtain ⟨ad321, e321, hx321_0, hx321_1⟩ := at_T26 HR0.out x4_1 p321 q321
         obtain rfl : ad319 = ad321 := (by injection e321)
         replace p321 := eq_true p321
         replace q321 := eq_true q321
         go_wp2
         go_roundg k1
         case measure => have := HK1.out; omega
         case rel => exact ⟨((rd_T26 l0 x4_1).f1), (wrap64 (x4_1 + 1)), (by first | rfl | (simp; done) | (simp [*]; done)), (by first | rfl | (simp; done) | (simp [*]; done)), H', ⟨by have := HK1.out; omega⟩, by repeat (first | exact Drawn0.refl _ | apply Drawn0.step)⟩
        ·rw [if_neg c10] at H
         have c10b0 : decide (x3_1 < ((rd_T26 l0 x4_1).f1)) = false := decide_eq_false c10
         clear c10
         have H' := Aside0.mk H
         clear H
         have p319 : 0 ≤ (x4_1 : Int) := of_decide_eq_true (by first | (with_reducible assumption) | assumption)
         have q319 : x4_1 < (l0.length : Int) := of_decide_eq_true (by first | (with_reducible assumption) | assumption)
         obtain ⟨ad319, e319, hx319_0, hx319_1⟩ := at_T26 HR0.out x4_1 p319 q319
         cases e319
         replace p319 := eq_true p319
         replace q319 := eq_true q319
         have p321 : 0 ≤ (x4_1 : Int) := of_decide_eq_true (by first | (with_reducible assumption) | assumption)
         have q321 : x4_1 < (l0.length : Int) := of_decide_eq_true (by first | (with_reducible assumption) | assumption)
         obtain ⟨ad321, e321, hx321_0, hx321_1⟩ := at_T26 HR0.out x4_1 p321 q321
         obtain rfl : ad319 = ad321 := (by injection e321)
         replace p321 := eq_true p321
         replace q321 := eq_true q321
         go_wp2
         go_roundg k1
         case measure => have := HK1.out; omega
         case rel => exact ⟨(x3_1), (wrap64 (x4_1 + 1)), (by first | rfl | (simp; done) | (simp [*]; done)), (by first | rfl | (simp; done) | (simp [*]; done)), H', ⟨by have := HK1.out; omega⟩, by repeat (first | exact Drawn0.refl _ | apply Drawn0.step)⟩
       ·rw [if_neg c9] at H
        have c9b0 : decide (((rd_T26 l0 x4_1).f0) ≤ ((rd_T26 l0 x4_1).f1)) = false := decide_eq_false c9
        clear c9
        have H' := Aside0.mk H
        clear H
        have p319 : 0 ≤ (x4_1 : Int) := of_decide_eq_true (by first | (with_reducible assumption) | assumption)
        have q319 : x4_1 < (l0.length : Int) := of_decide_eq_true (by first | (with_reducible assumption) | assumption)
        obtain ⟨ad319, e319, hx319_0, hx319_1⟩ := at_T26 HR0.out x4_1 p319 q319
        cases e319
        replace p319 := eq_true p319
        replace q319 := eq_true q319
        have p321 : 0 ≤ (x4_1 : Int) := of_decide_eq_true (by first | (with_reducible assumption) | assumption)
        have q321 : x4_1 < (l0.length : Int) := of_decide_eq_true (by first | (with_reducible assumption) | assumption)
        obtain ⟨ad321, e321, hx321_0, hx321_1⟩ := at_T26 HR0.out x4_1 p321 q321
        obtain rfl : ad319 = ad321 := (by injection e321)
        replace p321 := eq_true p321
        replace q321 := eq_true q321
        go_wp2
        go_roundg k1
        case measure => have := HK1.out; omega
        case rel => exact ⟨(x3_1), (wrap64 (x4_1 + 1)), (by first | rfl | (simp; done) | (simp [*]; done)), (by first | rfl | (simp; done) | (simp [*]; done)), H', ⟨by have := HK1.out; omega⟩, by repeat (first | exact Drawn0.refl _ | apply Drawn0.step)⟩
      ·rw [if_neg c8] at H
       have c8b0 : decide (1 ≤ ((rd_T26 l0 x4_1).f1)) = false := decide_eq_false c8
       clear c8
       have H' := Aside0.mk H
       clear H
       have p319 : 0 ≤ (x4_1 : Int) := of_decide_eq_true (by first | (with_reducible assumption) | assumption)
       have q319 : x4_1 < (l0.length : Int) := of_decide_eq_true (by first | (with_reducible assumption) | assumption)
       obtain ⟨ad319, e319, hx319_0, hx319_1⟩ := at_T26 HR0.out x4_1 p319 q319
       cases e319
       replace p319 := eq_true p319
       replace q319 := eq_true q319
       go_wp2
       go_roundg k1
       case measure => have := HK1.out; omega
       case rel => exact ⟨(x3_1), (wrap64 (x4_1 + 1)), (by first | rfl | (simp; done) | (simp [*]; done)), (by first | rfl | (simp; done) | (simp [*]; done)), H', ⟨by have := HK1.out; omega⟩, by repeat (first | exact Drawn0.refl _ | apply Drawn0.step)⟩
    ·rw [if_neg c3] at H
     exact absurd H (by simp)
   ·rw [if_neg c2] at H
    have c2b0 : decide (x4_1 < (l0.length : Int)) = false := decide_eq_false c2
    clear c2
    obtain rfl := Option.some.inj H
    go_wp2
    go_ret
    exact ⟨by first | rfl | (simp; done) | (simp [*]; done), by repeat (first | exact Drawn0.refl _ | apply Drawn0.step)⟩

end Go.Proofs.Yteldhpneegccjaa.G
