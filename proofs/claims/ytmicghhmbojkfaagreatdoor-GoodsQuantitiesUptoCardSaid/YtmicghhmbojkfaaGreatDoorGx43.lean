-- PRINTED by print.py (a twelfth state) out of the translation. Not trusted: Lean checks it.
import Derived.Test.YtmicghhmbojkfaaGreatDoorGx0
namespace Go.Proofs.YtmicghhmbojkfaaGreatDoor.G
open Go.RowKit Go.Proofs.YtmicghhmbojkfaaGreatDoorW.PrintWords Go.Proofs.YtmicghhmbojkfaaGreatDoorW.PrintLast Go.Proofs.YtmicghhmbojkfaaGreatDoorW.PrintMore
attribute [local go_sem] max2_int min2_int max_two min_two max_three min_three max_four min_four   -- for this text's walks alone
set_option linter.unusedVariables false
set_option linter.unusedSimpArgs false

/-! ### barrowref02_Total: function 58 -/
mutual
def barrowref02_Total.l0 : Nat → List Int → Int → Option (Int × Int)
 | 0, _, _ => none
 | k + 1, x0, x4 => if x4 < (x0.length : Int) then (if 0 ≤ x4 then (if (rd x0 x4) < 1 then (some (0, 6)) else (if (rd x0 x4) > 1000000 then (some (0, 6)) else (barrowref02_Total.l0 k x0 (wrap64 (x4 + 1))))) else (none)) else (barrowref02_Total.l1 k x0 0 0)
def barrowref02_Total.l1 : Nat → List Int → Int → Int → Option (Int × Int)
 | 0, _, _, _ => none
 | k + 1, x0, x5, x6 => if x6 < (x0.length : Int) then (if 0 ≤ x6 then (if (wrap64 (x5 + (rd x0 x6))) > 1000000 then (some (0, 13)) else (barrowref02_Total.l1 k x0 (wrap64 (x5 + (rd x0 x6))) (wrap64 (x6 + 1)))) else (none)) else (some (x5, 0))
end
def barrowref02_Total.f (k : Nat) (l0 : List Int) : Option (Int × Int) := barrowref02_Total.l0 k l0 0
theorem barrowref02_Total.mono_l : ∀ k, (∀ y0 y1, LeO (barrowref02_Total.l0 k y0 y1) (barrowref02_Total.l0 (k + 1) y0 y1)) ∧ (∀ y0 y1 y2, LeO (barrowref02_Total.l1 k y0 y1 y2) (barrowref02_Total.l1 (k + 1) y0 y1 y2))
 | 0 => ⟨fun _ _ r h => by simp [barrowref02_Total.l0] at h, fun _ _ _ r h => by simp [barrowref02_Total.l1] at h⟩
 | k + 1 => by
  obtain ⟨ih0, ih1⟩ := barrowref02_Total.mono_l k
  refine ⟨?_, ?_⟩
  ·intro y0 y1
   unfold barrowref02_Total.l0
   repeat' first
   | (with_reducible exact ih0 _ _)
   | (with_reducible exact ih1 _ _ _)
   | (with_reducible exact LeO.refl _)
   | (with_reducible exact LeO.none _)
   | (with_reducible refine LeO.ite ?_ ?_)
   | (with_reducible refine LeO.bind ?_ (fun _ => ?_))
   | exact ih0 _ _
   | exact ih1 _ _ _
   | exact LeO.none _
   | refine LeO.ite ?_ ?_
   | refine LeO.bind ?_ (fun _ => ?_)
  ·intro y0 y1 y2
   unfold barrowref02_Total.l1
   repeat' first
   | (with_reducible exact ih0 _ _)
   | (with_reducible exact ih1 _ _ _)
   | (with_reducible exact LeO.refl _)
   | (with_reducible exact LeO.none _)
   | (with_reducible refine LeO.ite ?_ ?_)
   | (with_reducible refine LeO.bind ?_ (fun _ => ?_))
   | exact ih0 _ _
   | exact ih1 _ _ _
   | exact LeO.none _
   | refine LeO.ite ?_ ?_
   | refine LeO.bind ?_ (fun _ => ?_)
theorem barrowref02_Total.mono : ∀ a0 k, LeO (barrowref02_Total.f k a0) (barrowref02_Total.f (k + 1) a0) := by
 intro a0 k
 obtain ⟨ih0, ih1⟩ := barrowref02_Total.mono_l k
 unfold barrowref02_Total.f
 repeat' first
   | (with_reducible exact ih0 _ _)
   | (with_reducible exact ih1 _ _ _)
   | (with_reducible exact LeO.refl _)
   | (with_reducible exact LeO.none _)
   | (with_reducible refine LeO.ite ?_ ?_)
   | (with_reducible refine LeO.bind ?_ (fun _ => ?_))
   | exact ih0 _ _
   | exact ih1 _ _ _
   | exact LeO.none _
   | refine LeO.ite ?_ ?_
   | refine LeO.bind ?_ (fun _ => ?_)
set_option maxHeartbeats 8000000 in
set_option maxRecDepth 100000 in
theorem barrowref02_Total.calls (k : Nat) (A0 : Option Addr) (c0 : Nat) (l0 : List Int) (r1 : Int) (r2 : Int) (w : World) (hr0 : Kd.C (Kd.int .i64) w A0 l0.length l0) (hc0 : l0.length ≤ c0) (h : barrowref02_Total.f k l0 = some (r1, r2)) :
  Calls Tryz.prog 58 #[.slice A0 l0.length c0] w fun e w' => e = .returned (.tuple #[.int .i64 r1, .int .i64 r2]) ∧ Drawn0 w w' := by
 have HR0 := Aside0.mk hr0
 have HC0 := Aside0.mk hc0
 clear hr0 hc0
 have H : (barrowref02_Total.l0 k l0 0) = some (r1, r2) := h
 clear h
 have H' := Aside0.mk H
 clear H
 go_enter Tryz.func58, Tryz.ntmps58
 go_wp2
 go_loopg [4] k (fun kq v4 w' => ∃ (x4_1 : Int), v4 = .int .i64 x4_1 ∧ Aside0 (barrowref02_Total.l0 kq l0 x4_1 = some (r1, r2)) ∧ Aside0 (kq ≤ k) ∧ Drawn0 w w')
 case atStart => exact ⟨(0), (by first | rfl | (simp; done) | (simp [*]; done)), H', ⟨Nat.le_refl _⟩, by repeat (first | exact Drawn0.refl _ | apply Drawn0.step)⟩
 case round =>
  clear H'
  obtain ⟨x4_1, rfl, HA, HK1, ⟨m1, rfl⟩⟩ := hrel
  cases gk with
  | zero => exact absurd HA.out (by simp [barrowref02_Total.l0])
  | succ k1 =>
   have H := HA.out
   clear HA
   simp only [barrowref02_Total.l0] at H
   by_cases c2 : x4_1 < (l0.length : Int)
   ·rw [if_pos c2] at H
    have c2b0 : decide (x4_1 < (l0.length : Int)) = true := decide_eq_true c2
    clear c2
    by_cases c3 : 0 ≤ x4_1
    ·rw [if_pos c3] at H
     have c3b0 : decide (0 ≤ x4_1) = true := decide_eq_true c3
     clear c3
     by_cases c4 : (rd l0 x4_1) < 1
     ·rw [if_pos c4] at H
      have c4b0 : decide ((rd l0 x4_1) < 1) = true := decide_eq_true c4
      clear c4
      simp only [Option.some.injEq, Prod.mk.injEq] at H
      obtain ⟨rfl, rfl⟩ := H
      have p261 : 0 ≤ (x4_1 : Int) := of_decide_eq_true (by first | (with_reducible assumption) | assumption)
      have q261 : x4_1 < (l0.length : Int) := of_decide_eq_true (by first | (with_reducible assumption) | assumption)
      obtain ⟨ad261, e261, hx261_0⟩ := Kd.at_int HR0.out x4_1 p261 q261
      cases e261
      replace p261 := eq_true p261
      replace q261 := eq_true q261
      go_wp2
      go_ret2
      exact ⟨by first | rfl | (simp; done) | (simp [*]; done), by repeat (first | exact Drawn0.refl _ | apply Drawn0.step)⟩
     ·rw [if_neg c4] at H
      have c4b0 : decide ((rd l0 x4_1) < 1) = false := decide_eq_false c4
      clear c4
      by_cases c5 : (rd l0 x4_1) > 1000000
      ·rw [if_pos c5] at H
       have c5b0 : decide (1000000 < (rd l0 x4_1)) = true := decide_eq_true c5
       clear c5
       simp only [Option.some.injEq, Prod.mk.injEq] at H
       obtain ⟨rfl, rfl⟩ := H
       have p261 : 0 ≤ (x4_1 : Int) := of_decide_eq_true (by first | (with_reducible assumption) | assumption)
       have q261 : x4_1 < (l0.length : Int) := of_decide_eq_true (by first | (with_reducible assumption) | assumption)
       obtain ⟨ad261, e261, hx261_0⟩ := Kd.at_int HR0.out x4_1 p261 q261
       cases e261
       replace p261 := eq_true p261
       replace q261 := eq_true q261
       have p262 : 0 ≤ (x4_1 : Int) := of_decide_eq_true (by first | (with_reducible assumption) | assumption)
       have q262 : x4_1 < (l0.length : Int) := of_decide_eq_true (by first | (with_reducible assumption) | assumption)
       obtain ⟨ad262, e262, hx262_0⟩ := Kd.at_int HR0.out x4_1 p262 q262
       obtain rfl : ad261 = ad262 := (by injection e262)
       replace p262 := eq_true p262
       replace q262 := eq_true q262
       go_wp2
       go_ret2
       exact ⟨by first | rfl | (simp; done) | (simp [*]; done), by repeat (first | exact Drawn0.refl _ | apply Drawn0.step)⟩
      ·rw [if_neg c5] at H
       have c5b0 : decide (1000000 < (rd l0 x4_1)) = false := decide_eq_false c5
       clear c5
       have H' := Aside0.mk H
       clear H
       have p261 : 0 ≤ (x4_1 : Int) := of_decide_eq_true (by first | (with_reducible assumption) | assumption)
       have q261 : x4_1 < (l0.length : Int) := of_decide_eq_true (by first | (with_reducible assumption) | assumption)
       obtain ⟨ad261, e261, hx261_0⟩ := Kd.at_int HR0.out x4_1 p261 q261
       cases e261
       replace p261 := eq_true p261
       replace q261 := eq_true q261
       have p262 : 0 ≤ (x4_1 : Int) := of_decide_eq_true (by first | (with_reducible assumption) | assumption)
       have q262 : x4_1 < (l0.length : Int) := of_decide_eq_true (by first | (with_reducible assumption) | assumption)
       obtain ⟨ad262, e262, hx262_0⟩ := Kd.at_int HR0.out x4_1 p262 q262
       obtain rfl : ad261 = ad262 := (by injection e262)
       replace p262 := eq_true p262
       replace q262 := eq_true q262
       go_wp2
       go_roundg k1
       case measure => have := HK1.out; omega
       case rel => exact ⟨(wrap64 (x4_1 + 1)), (by first | rfl | (simp; done) | (simp [*]; done)), H', ⟨by have := HK1.out; omega⟩, by repeat (first | exact Drawn0.refl _ | apply Drawn0.step)⟩
    ·rw [if_neg c3] at H
     exact absurd H (by simp)
   ·rw [if_neg c2] at H
    have c2b0 : decide (x4_1 < (l0.length : Int)) = false := decide_eq_false c2
    clear c2
    have H' := Aside0.mk H
    clear H
    go_wp2
    go_loopg [5, 6] k1 (fun kq v5 v6 w' => ∃ (x5_2 : Int) (x6_2 : Int), v5 = .int .i64 x5_2 ∧ v6 = .int .i64 x6_2 ∧ Aside0 (barrowref02_Total.l1 kq l0 x5_2 x6_2 = some (r1, r2)) ∧ Aside0 (kq ≤ k1) ∧ Drawn0 w w')
    case atStart => exact ⟨(0), (0), (by first | rfl | (simp; done) | (simp [*]; done)), (by first | rfl | (simp; done) | (simp [*]; done)), H', ⟨Nat.le_refl _⟩, by repeat (first | exact Drawn0.refl _ | apply Drawn0.step)⟩
    case round =>
     clear H'
     try clear c2
     try clear c2b0
     try clear p2
     try clear q2
     try clear hx2
     try clear c3
     try clear c3b0
     try clear c4
     try clear c4b0
     try clear c5
     try clear c5b0
     try clear hx261_0
     try clear hx262_0
     try clear p261
     try clear p262
     try clear q261
     try clear q262
     obtain ⟨x5_2, x6_2, rfl, rfl, HA, HK2, ⟨m2, rfl⟩⟩ := hrel
     cases gk with
     | zero => exact absurd HA.out (by simp [barrowref02_Total.l1])
     | succ k2 =>
      have H := HA.out
      clear HA
      simp only [barrowref02_Total.l1] at H
      by_cases c6 : x6_2 < (l0.length : Int)
      ·rw [if_pos c6] at H
       have c6b0 : decide (x6_2 < (l0.length : Int)) = true := decide_eq_true c6
       clear c6
       by_cases c7 : 0 ≤ x6_2
       ·rw [if_pos c7] at H
        have c7b0 : decide (0 ≤ x6_2) = true := decide_eq_true c7
        clear c7
        by_cases c8 : (wrap64 (x5_2 + (rd l0 x6_2))) > 1000000
        ·rw [if_pos c8] at H
         have c8b0 : decide (1000000 < (wrap64 (x5_2 + (rd l0 x6_2)))) = true := decide_eq_true c8
         clear c8
         simp only [Option.some.injEq, Prod.mk.injEq] at H
         obtain ⟨rfl, rfl⟩ := H
         have p263 : 0 ≤ (x6_2 : Int) := of_decide_eq_true (by first | (with_reducible assumption) | assumption)
         have q263 : x6_2 < (l0.length : Int) := of_decide_eq_true (by first | (with_reducible assumption) | assumption)
         obtain ⟨ad263, e263, hx263_0⟩ := Kd.at_int HR0.out x6_2 p263 q263
         cases e263
         replace p263 := eq_true p263
         replace q263 := eq_true q263
         go_wp2
         go_ret2
         exact ⟨by first | rfl | (simp; done) | (simp [*]; done), by repeat (first | exact Drawn0.refl _ | apply Drawn0.step)⟩
        ·rw [if_neg c8] at H
         have c8b0 : decide (1000000 < (wrap64 (x5_2 + (rd l0 x6_2)))) = false := decide_eq_false c8
         clear c8
         have H' := Aside0.mk H
         clear H
         have p263 : 0 ≤ (x6_2 : Int) := of_decide_eq_true (by first | (with_reducible assumption) | assumption)
         have q263 : x6_2 < (l0.length : Int) := of_decide_eq_true (by first | (with_reducible assumption) | assumption)
         obtain ⟨ad263, e263, hx263_0⟩ := Kd.at_int HR0.out x6_2 p263 q263
         cases e263
         replace p263 := eq_true p263
         replace q263 := eq_true q263
         go_wp2
         go_roundg k2
         case measure => have := HK1.out; have := HK2.out; omega
         case rel => exact ⟨(wrap64 (x5_2 + (rd l0 x6_2))), (wrap64 (x6_2 + 1)), (by first | rfl | (simp; done) | (simp [*]; done)), (by first | rfl | (simp; done) | (simp [*]; done)), H', ⟨by have := HK1.out; have := HK2.out; omega⟩, by repeat (first | exact Drawn0.refl _ | apply Drawn0.step)⟩
       ·rw [if_neg c7] at H
        exact absurd H (by simp)
      ·rw [if_neg c6] at H
       have c6b0 : decide (x6_2 < (l0.length : Int)) = false := decide_eq_false c6
       clear c6
       simp only [Option.some.injEq, Prod.mk.injEq] at H
       obtain ⟨rfl, rfl⟩ := H
       go_wp2
       go_ret2
       exact ⟨by first | rfl | (simp; done) | (simp [*]; done), by repeat (first | exact Drawn0.refl _ | apply Drawn0.step)⟩

end Go.Proofs.YtmicghhmbojkfaaGreatDoor.G
