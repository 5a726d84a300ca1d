-- PRINTED by print.py (a twelfth state) out of the translation. Not trusted: Lean checks it.
import Derived.Test.YteldhpneegccjaaGx0
namespace Go.Proofs.Yteldhpneegccjaa.G
open Go.RowKit Go.Proofs.YteldhpneegccjaaW.PrintWords Go.Proofs.YteldhpneegccjaaW.PrintLast Go.Proofs.YteldhpneegccjaaW.PrintMore
attribute [local go_sem] max2_int min2_int max_two min_two max_three min_three max_four min_four   -- for this text's walks alone
set_option linter.unusedVariables false
set_option linter.unusedSimpArgs false

/-! ### barrowref01_IsNorm: function 29 -/
mutual
def barrowref01_IsNorm.l0 : Nat → List (S26) → Int → Option (Bool)
 | 0, _, _ => none
 | k + 1, x0, x3 => if x3 < (x0.length : Int) then (if 0 ≤ x3 then (if ((rd_T26 x0 x3).f0) < 1 then (barrowref01_IsNorm.j1 k x0 x3 true) else (if ((rd_T26 x0 x3).f0) > ((rd_T26 x0 x3).f1) then (barrowref01_IsNorm.j1 k x0 x3 true) else (barrowref01_IsNorm.j1 k x0 x3 (decide (((rd_T26 x0 x3).f1) > 1000000000))))) else (none)) else (some true)
def barrowref01_IsNorm.j1 : Nat → List (S26) → Int → Bool → Option (Bool)
 | 0, _, _, _ => none
 | k + 1, x0, x3, x36 => if x36 = true then (some false) else (if x3 > 0 then (if 0 ≤ x3 then (if x3 < (x0.length : Int) then (if 0 ≤ (wrap64 (x3 - 1)) then (if (wrap64 (x3 - 1)) < (x0.length : Int) then (if (wrap64 (((rd_T26 x0 x3).f0) - 2)) < ((rd_T26 x0 (wrap64 (x3 - 1))).f1) then (some false) else (barrowref01_IsNorm.l0 k x0 (wrap64 (x3 + 1)))) else (none)) else (none)) else (none)) else (none)) else (barrowref01_IsNorm.l0 k x0 (wrap64 (x3 + 1))))
end
def barrowref01_IsNorm.f (k : Nat) (l0 : List (S26)) : Option (Bool) := barrowref01_IsNorm.l0 k l0 0
theorem barrowref01_IsNorm.mono_l : ∀ k, (∀ y0 y1, LeO (barrowref01_IsNorm.l0 k y0 y1) (barrowref01_IsNorm.l0 (k + 1) y0 y1)) ∧ (∀ y0 y1 y2, LeO (barrowref01_IsNorm.j1 k y0 y1 y2) (barrowref01_IsNorm.j1 (k + 1) y0 y1 y2))
 | 0 => ⟨fun _ _ r h => by simp [barrowref01_IsNorm.l0] at h, fun _ _ _ r h => by simp [barrowref01_IsNorm.j1] at h⟩
 | k + 1 => by
  obtain ⟨ih0, ih1⟩ := barrowref01_IsNorm.mono_l k
  refine ⟨?_, ?_⟩
  ·intro y0 y1
   unfold barrowref01_IsNorm.l0
   repeat' first
   | (with_reducible exact ih0 _ _)
   | (with_reducible exact ih1 _ _ _)
   | (with_reducible exact LeO.refl _)
   | (with_reducible exact LeO.none _)
   | (with_reducible refine LeO.ite ?_ ?_)
   | (with_reducible refine LeO.bind ?_ (fun _ => ?_))
   | exact ih0 _ _
   | exact ih1 _ _ _
   | exact LeO.none _
   | refine LeO.ite ?_ ?_
   | refine LeO.bind ?_ (fun _ => ?_)
  ·intro y0 y1 y2
   unfold barrowref01_IsNorm.j1
   repeat' first
   | (with_reducible exact ih0 _ _)
   | (with_reducible exact ih1 _ _ _)
   | (with_reducible exact LeO.refl _)
   | (with_reducible exact LeO.none _)
   | (with_reducible refine LeO.ite ?_ ?_)
   | (with_reducible refine LeO.bind ?_ (fun _ => ?_))
   | exact ih0 _ _
   | exact ih1 _ _ _
   | exact LeO.none _
   | refine LeO.ite ?_ ?_
   | refine LeO.bind ?_ (fun _ => ?_)
theorem barrowref01_IsNorm.mono : ∀ a0 k, LeO (barrowref01_IsNorm.f k a0) (barrowref01_IsNorm.f (k + 1) a0) := by
 intro a0 k
 obtain ⟨ih0, ih1⟩ := barrowref01_IsNorm.mono_l k
 unfold barrowref01_IsNorm.f
 repeat' first
   | (with_reducible exact ih0 _ _)
   | (with_reducible exact ih1 _ _ _)
   | (with_reducible exact LeO.refl _)
   | (with_reducible exact LeO.none _)
   | (with_reducible refine LeO.ite ?_ ?_)
   | (with_reducible refine LeO.bind ?_ (fun _ => ?_))
   | exact ih0 _ _
   | exact ih1 _ _ _
   | exact LeO.none _
   | refine LeO.ite ?_ ?_
   | refine LeO.bind ?_ (fun _ => ?_)
set_option maxHeartbeats 8000000 in
set_option maxRecDepth 100000 in
theorem barrowref01_IsNorm.calls (k : Nat) (A0 : Option Addr) (c0 : Nat) (l0 : List (S26)) (r : Bool) (w : World) (hr0 : Kd.C k26 w A0 l0.length l0) (hc0 : l0.length ≤ c0) (h : barrowref01_IsNorm.f k l0 = some r) :
  Calls Try.prog 29 #[.slice A0 l0.length c0] w fun e w' => e = .returned (.bool r) ∧ Drawn0 w w' := by
 have HR0 := Aside0.mk hr0
 have HC0 := Aside0.mk hc0
 clear hr0 hc0
 have H : (barrowref01_IsNorm.l0 k l0 0) = some r := h
 clear h
 have H' := Aside0.mk H
 clear H
 go_enter Try.func29, Try.ntmps29
 go_wp2
 repeat (go_quiet (fail); try go_wp2)
 go_loopg [3] k (fun kq v3 w' => ∃ (x3_1 : Int), v3 = .int .i64 x3_1 ∧ Aside0 (barrowref01_IsNorm.l0 kq l0 x3_1 = some r) ∧ Aside0 (kq ≤ k) ∧ Drawn0 w w')
 case atStart => exact ⟨(0), (by first | rfl | (simp; done) | (simp [*]; done)), H', ⟨Nat.le_refl _⟩, by repeat (first | exact Drawn0.refl _ | apply Drawn0.step)⟩
 case round =>
  clear H'
  obtain ⟨x3_1, rfl, HA, HK1, ⟨m1, rfl⟩⟩ := hrel
  cases gk with
  | zero => exact absurd HA.out (by simp [barrowref01_IsNorm.l0])
  | succ k1 =>
   have H := HA.out
   clear HA
   simp only [barrowref01_IsNorm.l0] at H
   by_cases c2 : x3_1 < (l0.length : Int)
   ·rw [if_pos c2] at H
    have c2b0 : decide (x3_1 < (l0.length : Int)) = true := decide_eq_true c2
    clear c2
    have HC3 := Aside0.mk H
    clear H
    go_upto_region 4 with (fail)
    repeat (go_quiet (fail); go_upto_region 4 with (fail))
    go_cut [36] (fun v36 wc => ∃ (kq : Nat) (x36_2 : Bool), v36 = .bool x36_2 ∧ Aside0 (barrowref01_IsNorm.j1 kq l0 x3_1 x36_2 = some r) ∧ Aside0 (kq ≤ k1) ∧ Drawn0 w wc)
    case first =>
     have H := HC3.out
     clear HC3
     by_cases c4 : 0 ≤ x3_1
     ·rw [if_pos c4] at H
      have c4b0 : decide (0 ≤ x3_1) = true := decide_eq_true c4
      clear c4
      (first | rw [c4b0] | (simp only [i64_w, i32_w]; rw [c4b0]) | skip)
      by_cases c5 : ((rd_T26 l0 x3_1).f0) < 1
      ·rw [if_pos c5] at H
       have c5b0 : decide (((rd_T26 l0 x3_1).f0) < 1) = true := decide_eq_true c5
       clear c5
       have H' := Aside0.mk H
       clear H
       have p313 : 0 ≤ (x3_1 : Int) := of_decide_eq_true (by first | (with_reducible assumption) | assumption)
       have q313 : x3_1 < (l0.length : Int) := of_decide_eq_true (by first | (with_reducible assumption) | assumption)
       obtain ⟨ad313, e313, hx313_0, hx313_1⟩ := at_T26 HR0.out x3_1 p313 q313
       cases e313
       replace p313 := eq_true p313
       replace q313 := eq_true q313
       go_wp2
       repeat (go_quiet (fail); try go_wp2)
       go_meet
       case rel => exact ⟨_, (true), (by first | rfl | (simp; done) | (simp [*]; done)), H', ⟨by have := HK1.out; first | omega | exact Nat.le_refl _⟩, by repeat (first | exact Drawn0.refl _ | apply Drawn0.step)⟩
      ·rw [if_neg c5] at H
       have c5b0 : decide (((rd_T26 l0 x3_1).f0) < 1) = false := decide_eq_false c5
       clear c5
       by_cases c6 : ((rd_T26 l0 x3_1).f0) > ((rd_T26 l0 x3_1).f1)
       ·rw [if_pos c6] at H
        have c6b0 : decide (((rd_T26 l0 x3_1).f1) < ((rd_T26 l0 x3_1).f0)) = true := decide_eq_true c6
        clear c6
        have H' := Aside0.mk H
        clear H
        have p313 : 0 ≤ (x3_1 : Int) := of_decide_eq_true (by first | (with_reducible assumption) | assumption)
        have q313 : x3_1 < (l0.length : Int) := of_decide_eq_true (by first | (with_reducible assumption) | assumption)
        obtain ⟨ad313, e313, hx313_0, hx313_1⟩ := at_T26 HR0.out x3_1 p313 q313
        cases e313
        replace p313 := eq_true p313
        replace q313 := eq_true q313
        have p314 : 0 ≤ (x3_1 : Int) := of_decide_eq_true (by first | (with_reducible assumption) | assumption)
        have q314 : x3_1 < (l0.length : Int) := of_decide_eq_true (by first | (with_reducible assumption) | assumption)
        obtain ⟨ad314, e314, hx314_0, hx314_1⟩ := at_T26 HR0.out x3_1 p314 q314
        obtain rfl : ad313 = ad314 := (by injection e314)
        replace p314 := eq_true p314
        replace q314 := eq_true q314
        have p315 : 0 ≤ (x3_1 : Int) := of_decide_eq_true (by first | (with_reducible assumption) | assumption)
        have q315 : x3_1 < (l0.length : Int) := of_decide_eq_true (by first | (with_reducible assumption) | assumption)
        obtain ⟨ad315, e315, hx315_0, hx315_1⟩ := at_T26 HR0.out x3_1 p315 q315
        obtain rfl : ad313 = ad315 := (by injection e315)
        replace p315 := eq_true p315
        replace q315 := eq_true q315
        go_wp2
        repeat (go_quiet (fail); try go_wp2)
        go_meet
        case rel => exact ⟨_, (true), (by first | rfl | (simp; done) | (simp [*]; done)), H', ⟨by have := HK1.out; first | omega | exact Nat.le_refl _⟩, by repeat (first | exact Drawn0.refl _ | apply Drawn0.step)⟩
       ·rw [if_neg c6] at H
        have c6b0 : decide (((rd_T26 l0 x3_1).f1) < ((rd_T26 l0 x3_1).f0)) = false := decide_eq_false c6
        clear c6
        have H' := Aside0.mk H
        clear H
        have p313 : 0 ≤ (x3_1 : Int) := of_decide_eq_true (by first | (with_reducible assumption) | assumption)
        have q313 : x3_1 < (l0.length : Int) := of_decide_eq_true (by first | (with_reducible assumption) | assumption)
        obtain ⟨ad313, e313, hx313_0, hx313_1⟩ := at_T26 HR0.out x3_1 p313 q313
        cases e313
        replace p313 := eq_true p313
        replace q313 := eq_true q313
        have p314 : 0 ≤ (x3_1 : Int) := of_decide_eq_true (by first | (with_reducible assumption) | assumption)
        have q314 : x3_1 < (l0.length : Int) := of_decide_eq_true (by first | (with_reducible assumption) | assumption)
        obtain ⟨ad314, e314, hx314_0, hx314_1⟩ := at_T26 HR0.out x3_1 p314 q314
        obtain rfl : ad313 = ad314 := (by injection e314)
        replace p314 := eq_true p314
        replace q314 := eq_true q314
        have p315 : 0 ≤ (x3_1 : Int) := of_decide_eq_true (by first | (with_reducible assumption) | assumption)
        have q315 : x3_1 < (l0.length : Int) := of_decide_eq_true (by first | (with_reducible assumption) | assumption)
        obtain ⟨ad315, e315, hx315_0, hx315_1⟩ := at_T26 HR0.out x3_1 p315 q315
        obtain rfl : ad313 = ad315 := (by injection e315)
        replace p315 := eq_true p315
        replace q315 := eq_true q315
        have p316 : 0 ≤ (x3_1 : Int) := of_decide_eq_true (by first | (with_reducible assumption) | assumption)
        have q316 : x3_1 < (l0.length : Int) := of_decide_eq_true (by first | (with_reducible assumption) | assumption)
        obtain ⟨ad316, e316, hx316_0, hx316_1⟩ := at_T26 HR0.out x3_1 p316 q316
        obtain rfl : ad313 = ad316 := (by injection e316)
        replace p316 := eq_true p316
        replace q316 := eq_true q316
        go_wp2
        repeat (go_quiet (fail); try go_wp2)
        go_meet
        case rel => exact ⟨_, (decide (((rd_T26 l0 x3_1).f1) > 1000000000)), (by first | rfl | (simp; done) | (simp [*]; done)), H', ⟨by have := HK1.out; first | omega | exact Nat.le_refl _⟩, by repeat (first | exact Drawn0.refl _ | apply Drawn0.step)⟩
     ·rw [if_neg c4] at H
      exact absurd H (by simp)
    case rest =>
     clear HC3
     try clear c2
     try clear c2b0
     try clear p2
     try clear p3
     try clear q3
     try clear hx3
     try clear c4
     try clear c4b0
     try clear c5
     try clear c5b0
     try clear c6
     try clear c6b0
     try clear hx313_0
     try clear hx313_1
     try clear hx314_0
     try clear hx314_1
     try clear hx315_0
     try clear hx315_1
     try clear hx316_0
     try clear hx316_1
     try clear p313
     try clear p314
     try clear p315
     try clear p316
     try clear q313
     try clear q314
     try clear q315
     try clear q316
     obtain ⟨kq, x36_2, rfl, HA, HJ2, ⟨mc2, rfl⟩⟩ := hcut
     cases kq with
     | zero => exact absurd HA.out (by simp [barrowref01_IsNorm.j1])
     | succ kj2 =>
      have H := HA.out
      clear HA
      simp only [barrowref01_IsNorm.j1] at H
      by_cases c7 : x36_2 = true
      ·subst c7
       have H1 : (some false) = some r := by rw [if_pos rfl] at H; exact H
       clear H
       have H := H1
       clear H1
       obtain rfl := Option.some.inj H
       go_wp2
       repeat (go_quiet (fail); try go_wp2)
       go_ret
       exact ⟨by first | rfl | (simp; done) | (simp [*]; done), by repeat (first | exact Drawn0.refl _ | apply Drawn0.step)⟩
      ·replace c7 := Bool.eq_false_iff.mpr c7
       subst c7
       have H1 : (if x3_1 > 0 then (if 0 ≤ x3_1 then (if x3_1 < (l0.length : Int) then (if 0 ≤ (wrap64 (x3_1 - 1)) then (if (wrap64 (x3_1 - 1)) < (l0.length : Int) then (if (wrap64 (((rd_T26 l0 x3_1).f0) - 2)) < ((rd_T26 l0 (wrap64 (x3_1 - 1))).f1) then (some false) else (barrowref01_IsNorm.l0 kj2 l0 (wrap64 (x3_1 + 1)))) else (none)) else (none)) else (none)) else (none)) else (barrowref01_IsNorm.l0 kj2 l0 (wrap64 (x3_1 + 1)))) = some r := by rw [if_neg (show ¬ (false = true) by decide)] at H; exact H
       clear H
       have H := H1
       clear H1
       by_cases c8 : x3_1 > 0
       ·rw [if_pos c8] at H
        have c8b0 : decide (0 < x3_1) = true := decide_eq_true c8
        clear c8
        by_cases c9 : 0 ≤ x3_1
        ·rw [if_pos c9] at H
         have c9b0 : decide (0 ≤ x3_1) = true := decide_eq_true c9
         clear c9
         by_cases c10 : x3_1 < (l0.length : Int)
         ·rw [if_pos c10] at H
          have c10b0 : decide (x3_1 < (l0.length : Int)) = true := decide_eq_true c10
          clear c10
          obtain ⟨ji11, hji11⟩ : ∃ j_ : Int, (wrap64 (x3_1 - 1)) = j_ := ⟨_, rfl⟩
          replace H : (if 0 ≤ (ji11) then (if (ji11) < (l0.length : Int) then (if (wrap64 (((rd_T26 l0 x3_1).f0) - 2)) < ((rd_T26 l0 (ji11)).f1) then (some false) else (barrowref01_IsNorm.l0 kj2 l0 (wrap64 (x3_1 + 1)))) else (none)) else (none)) = some r := by first | (rw [hji11] at H; exact H) | (simp only [hji11] at H ⊢; exact H)
          have hji11w : (IntKind.i64.wrap (x3_1 - 1)) = ji11 := (i64_w _).trans hji11
          by_cases c12 : 0 ≤ (ji11)
          ·rw [if_pos c12] at H
           have c12b0 : decide (0 ≤ (ji11)) = true := decide_eq_true c12
           clear c12
           by_cases c13 : (ji11) < (l0.length : Int)
           ·rw [if_pos c13] at H
            have c13b0 : decide ((ji11) < (l0.length : Int)) = true := decide_eq_true c13
            clear c13
            by_cases c14 : (wrap64 (((rd_T26 l0 x3_1).f0) - 2)) < ((rd_T26 l0 (ji11)).f1)
            ·rw [if_pos c14] at H
             have c14b0 : decide ((wrap64 (((rd_T26 l0 x3_1).f0) - 2)) < ((rd_T26 l0 (ji11)).f1)) = true := decide_eq_true c14
             clear c14
             obtain rfl := Option.some.inj H
             have p317 : 0 ≤ (x3_1 : Int) := of_decide_eq_true (by first | (with_reducible assumption) | assumption)
             have q317 : x3_1 < (l0.length : Int) := of_decide_eq_true (by first | (with_reducible assumption) | assumption)
             obtain ⟨ad317, e317, hx317_0, hx317_1⟩ := at_T26 HR0.out x3_1 p317 q317
             cases e317
             replace p317 := eq_true p317
             replace q317 := eq_true q317
             have p318 : 0 ≤ ((ji11) : Int) := of_decide_eq_true (by first | (with_reducible assumption) | assumption)
             have q318 : (ji11) < (l0.length : Int) := of_decide_eq_true (by first | (with_reducible assumption) | assumption)
             obtain ⟨ad318, e318, hx318_0, hx318_1⟩ := at_T26 HR0.out (ji11) p318 q318
             obtain rfl : ad317 = ad318 := (by injection e318)
             replace p318 := eq_true p318
             replace q318 := eq_true q318
             go_wp2
             repeat (go_quiet (fail); try go_wp2)
             go_ret
             exact ⟨by first | rfl | (simp; done) | (simp only [← hji11] <;> (first | rfl | simp)) | (simp [*]; done), by repeat (first | exact Drawn0.refl _ | apply Drawn0.step)⟩
            ·rw [if_neg c14] at H
             have c14b0 : decide ((wrap64 (((rd_T26 l0 x3_1).f0) - 2)) < ((rd_T26 l0 (ji11)).f1)) = false := decide_eq_false c14
             clear c14
             have H' := Aside0.mk H
             clear H
             have p317 : 0 ≤ (x3_1 : Int) := of_decide_eq_true (by first | (with_reducible assumption) | assumption)
             have q317 : x3_1 < (l0.length : Int) := of_decide_eq_true (by first | (with_reducible assumption) | assumption)
             obtain ⟨ad317, e317, hx317_0, hx317_1⟩ := at_T26 HR0.out x3_1 p317 q317
             cases e317
             replace p317 := eq_true p317
             replace q317 := eq_true q317
             have p318 : 0 ≤ ((ji11) : Int) := of_decide_eq_true (by first | (with_reducible assumption) | assumption)
             have q318 : (ji11) < (l0.length : Int) := of_decide_eq_true (by first | (with_reducible assumption) | assumption)
             obtain ⟨ad318, e318, hx318_0, hx318_1⟩ := at_T26 HR0.out (ji11) p318 q318
             obtain rfl : ad317 = ad318 := (by injection e318)
             replace p318 := eq_true p318
             replace q318 := eq_true q318
             go_wp2
             repeat (go_quiet (fail); try go_wp2)
             go_roundg kj2
             case measure => have := HK1.out; have := HJ2.out; omega
             case rel => exact ⟨(wrap64 (x3_1 + 1)), (by first | rfl | (simp; done) | (simp [*]; done)), H', ⟨by have := HK1.out; have := HJ2.out; omega⟩, by repeat (first | exact Drawn0.refl _ | apply Drawn0.step)⟩
           ·rw [if_neg c13] at H
            exact absurd H (by simp)
          ·rw [if_neg c12] at H
           exact absurd H (by simp)
         ·rw [if_neg c10] at H
          exact absurd H (by simp)
        ·rw [if_neg c9] at H
         exact absurd H (by simp)
       ·rw [if_neg c8] at H
        have c8b0 : decide (0 < x3_1) = false := decide_eq_false c8
        clear c8
        have H' := Aside0.mk H
        clear H
        go_wp2
        repeat (go_quiet (fail); try go_wp2)
        go_roundg kj2
        case measure => have := HK1.out; have := HJ2.out; omega
        case rel => exact ⟨(wrap64 (x3_1 + 1)), (by first | rfl | (simp; done) | (simp [*]; done)), H', ⟨by have := HK1.out; have := HJ2.out; omega⟩, by repeat (first | exact Drawn0.refl _ | apply Drawn0.step)⟩
   ·rw [if_neg c2] at H
    have c2b0 : decide (x3_1 < (l0.length : Int)) = false := decide_eq_false c2
    clear c2
    obtain rfl := Option.some.inj H
    go_wp2
    repeat (go_quiet (fail); try go_wp2)
    go_ret
    exact ⟨by first | rfl | (simp; done) | (simp [*]; done), by repeat (first | exact Drawn0.refl _ | apply Drawn0.step)⟩

end Go.Proofs.Yteldhpneegccjaa.G
