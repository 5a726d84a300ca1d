-- PRINTED by print.py (a twelfth state) out of the translation. Not trusted: Lean checks it.
import Derived.Test.YtmicghhmbojkfaaDoorSx0
import Derived.Test.YtmicghhmbojkfaaDoorSx1
import Derived.Test.YtmicghhmbojkfaaDoorSx2
import Derived.Test.YtmicghhmbojkfaaDoorSBor
namespace Go.Proofs.YtmicghhmbojkfaaDoor.S
open Go.RowKit Go.Proofs.YtmicghhmbojkfaaDoorW.PrintWords Go.Proofs.YtmicghhmbojkfaaDoorW.PrintLast Go.Proofs.YtmicghhmbojkfaaDoorW.PrintMore
attribute [local go_sem] max2_int min2_int max_two min_two max_three min_three max_four min_four   -- for this text's walks alone
set_option linter.unusedVariables false
set_option linter.unusedSimpArgs false

/-! ### barrowref02_Compare: function 29 -/
mutual
def barrowref02_Compare.l0 : Nat → ByteArray → ByteArray → Int → Int → Option (Int)
 | 0, _, _, _, _ => none
 | k + 1, x0, x1, x5, x6 => if x5 < (x0.size : Int) then (barrowref02_Compare.j1 k x0 x1 x5 x6 (decide (x6 < (x1.size : Int)))) else (barrowref02_Compare.j1 k x0 x1 x5 x6 false)
def barrowref02_Compare.j1 : Nat → ByteArray → ByteArray → Int → Int → Bool → Option (Int)
 | 0, _, _, _, _, _ => none
 | k + 1, x0, x1, x5, x6, x21 => if x21 = true then (if 0 ≤ x5 then (if x5 < (x0.size : Int) then ((barrowref02_digit.f (bt x0 x5)).bind fun t102 => (if t102 = true then (if 0 ≤ x6 then (if x6 < (x1.size : Int) then ((barrowref02_digit.f (bt x1 x6)).bind fun t103 => (barrowref02_Compare.j2 k x0 x1 x5 x6 t103)) else (none)) else (none)) else (barrowref02_Compare.j2 k x0 x1 x5 x6 false))) else (none)) else (none)) else (if x5 = (x0.size : Int) then (barrowref02_Compare.j3 k x0 x1 x5 x6 (decide (x6 < (x1.size : Int)))) else (barrowref02_Compare.j3 k x0 x1 x5 x6 false))
def barrowref02_Compare.j2 : Nat → ByteArray → ByteArray → Int → Int → Bool → Option (Int)
 | 0, _, _, _, _, _ => none
 | k + 1, x0, x1, x5, x6, x31 => if x31 = true then ((barrowref02_number.f k x0 x5).bind fun bt104 => ((barrowref02_number.f k x1 x6).bind fun bt106 => (if (bt104.1.size : Int) < (bt106.1.size : Int) then (some (-1)) else (if (bt104.1.size : Int) > (bt106.1.size : Int) then (some 1) else ((barrowref02_bytesOrder.f bt104.1 bt106.1).bind fun t108 => (if t108 = 0 then (barrowref02_Compare.l0 k x0 x1 bt104.2 bt106.2) else (some t108))))))) else (if 0 ≤ x5 then (if x5 < (x0.size : Int) then (if 0 ≤ x6 then (if x6 < (x1.size : Int) then (if (bt x0 x5) < (bt x1 x6) then (some (-1)) else (if (bt x0 x5) > (bt x1 x6) then (some 1) else (barrowref02_Compare.l0 k x0 x1 (wrap64 (x5 + 1)) (wrap64 (x6 + 1))))) else (none)) else (none)) else (none)) else (none))
def barrowref02_Compare.j3 : Nat → ByteArray → ByteArray → Int → Int → Bool → Option (Int)
 | 0, _, _, _, _, _ => none
 | k + 1, x0, x1, x5, x6, x89 => if x89 = true then (some (-1)) else (if x5 < (x0.size : Int) then (if x6 = (x1.size : Int) then (some 1) else ((barrowref02_bytesOrder.f x0 x1).bind fun t109 => (some t109))) else ((barrowref02_bytesOrder.f x0 x1).bind fun t110 => (some t110)))
end
def barrowref02_Compare.f (k : Nat) (a0 : ByteArray) (a1 : ByteArray) : Option (Int) := barrowref02_Compare.l0 k a0 a1 0 0
theorem barrowref02_Compare.mono_l : ∀ k, (∀ y0 y1 y2 y3, LeO (barrowref02_Compare.l0 k y0 y1 y2 y3) (barrowref02_Compare.l0 (k + 1) y0 y1 y2 y3)) ∧ (∀ y0 y1 y2 y3 y4, LeO (barrowref02_Compare.j1 k y0 y1 y2 y3 y4) (barrowref02_Compare.j1 (k + 1) y0 y1 y2 y3 y4)) ∧ (∀ y0 y1 y2 y3 y4, LeO (barrowref02_Compare.j2 k y0 y1 y2 y3 y4) (barrowref02_Compare.j2 (k + 1) y0 y1 y2 y3 y4)) ∧ (∀ y0 y1 y2 y3 y4, LeO (barrowref02_Compare.j3 k y0 y1 y2 y3 y4) (barrowref02_Compare.j3 (k + 1) y0 y1 y2 y3 y4))
 | 0 => ⟨fun _ _ _ _ r h => by simp [barrowref02_Compare.l0] at h, fun _ _ _ _ _ r h => by simp [barrowref02_Compare.j1] at h, fun _ _ _ _ _ r h => by simp [barrowref02_Compare.j2] at h, fun _ _ _ _ _ r h => by simp [barrowref02_Compare.j3] at h⟩
 | k + 1 => by
  obtain ⟨ih0, ih1, ih2, ih3⟩ := barrowref02_Compare.mono_l k
  refine ⟨?_, ?_, ?_, ?_⟩
  ·intro y0 y1 y2 y3
   unfold barrowref02_Compare.l0
   repeat' first
   | (with_reducible exact ih0 _ _ _ _)
   | (with_reducible exact ih1 _ _ _ _ _)
   | (with_reducible exact ih2 _ _ _ _ _)
   | (with_reducible exact ih3 _ _ _ _ _)
   | (with_reducible exact barrowref02_number.mono _ _ _)
   | (with_reducible exact LeO.refl _)
   | (with_reducible exact LeO.none _)
   | (with_reducible refine LeO.ite ?_ ?_)
   | (with_reducible refine LeO.bind ?_ (fun _ => ?_))
   | exact ih0 _ _ _ _
   | exact ih1 _ _ _ _ _
   | exact ih2 _ _ _ _ _
   | exact ih3 _ _ _ _ _
   | exact barrowref02_number.mono _ _ _
   | exact LeO.none _
   | refine LeO.ite ?_ ?_
   | refine LeO.bind ?_ (fun _ => ?_)
  ·intro y0 y1 y2 y3 y4
   unfold barrowref02_Compare.j1
   repeat' first
   | (with_reducible exact ih0 _ _ _ _)
   | (with_reducible exact ih1 _ _ _ _ _)
   | (with_reducible exact ih2 _ _ _ _ _)
   | (with_reducible exact ih3 _ _ _ _ _)
   | (with_reducible exact barrowref02_number.mono _ _ _)
   | (with_reducible exact LeO.refl _)
   | (with_reducible exact LeO.none _)
   | (with_reducible refine LeO.ite ?_ ?_)
   | (with_reducible refine LeO.bind ?_ (fun _ => ?_))
   | exact ih0 _ _ _ _
   | exact ih1 _ _ _ _ _
   | exact ih2 _ _ _ _ _
   | exact ih3 _ _ _ _ _
   | exact barrowref02_number.mono _ _ _
   | exact LeO.none _
   | refine LeO.ite ?_ ?_
   | refine LeO.bind ?_ (fun _ => ?_)
  ·intro y0 y1 y2 y3 y4
   unfold barrowref02_Compare.j2
   repeat' first
   | (with_reducible exact ih0 _ _ _ _)
   | (with_reducible exact ih1 _ _ _ _ _)
   | (with_reducible exact ih2 _ _ _ _ _)
   | (with_reducible exact ih3 _ _ _ _ _)
   | (with_reducible exact barrowref02_number.mono _ _ _)
   | (with_reducible exact LeO.refl _)
   | (with_reducible exact LeO.none _)
   | (with_reducible refine LeO.ite ?_ ?_)
   | (with_reducible refine LeO.bind ?_ (fun _ => ?_))
   | exact ih0 _ _ _ _
   | exact ih1 _ _ _ _ _
   | exact ih2 _ _ _ _ _
   | exact ih3 _ _ _ _ _
   | exact barrowref02_number.mono _ _ _
   | exact LeO.none _
   | refine LeO.ite ?_ ?_
   | refine LeO.bind ?_ (fun _ => ?_)
  ·intro y0 y1 y2 y3 y4
   unfold barrowref02_Compare.j3
   repeat' first
   | (with_reducible exact ih0 _ _ _ _)
   | (with_reducible exact ih1 _ _ _ _ _)
   | (with_reducible exact ih2 _ _ _ _ _)
   | (with_reducible exact ih3 _ _ _ _ _)
   | (with_reducible exact barrowref02_number.mono _ _ _)
   | (with_reducible exact LeO.refl _)
   | (with_reducible exact LeO.none _)
   | (with_reducible refine LeO.ite ?_ ?_)
   | (with_reducible refine LeO.bind ?_ (fun _ => ?_))
   | exact ih0 _ _ _ _
   | exact ih1 _ _ _ _ _
   | exact ih2 _ _ _ _ _
   | exact ih3 _ _ _ _ _
   | exact barrowref02_number.mono _ _ _
   | exact LeO.none _
   | refine LeO.ite ?_ ?_
   | refine LeO.bind ?_ (fun _ => ?_)
theorem barrowref02_Compare.mono : ∀ a0 a1 k, LeO (barrowref02_Compare.f k a0 a1) (barrowref02_Compare.f (k + 1) a0 a1) := by
 intro a0 a1 k
 obtain ⟨ih0, ih1, ih2, ih3⟩ := barrowref02_Compare.mono_l k
 unfold barrowref02_Compare.f
 repeat' first
   | (with_reducible exact ih0 _ _ _ _)
   | (with_reducible exact ih1 _ _ _ _ _)
   | (with_reducible exact ih2 _ _ _ _ _)
   | (with_reducible exact ih3 _ _ _ _ _)
   | (with_reducible exact barrowref02_number.mono _ _ _)
   | (with_reducible exact LeO.refl _)
   | (with_reducible exact LeO.none _)
   | (with_reducible refine LeO.ite ?_ ?_)
   | (with_reducible refine LeO.bind ?_ (fun _ => ?_))
   | exact ih0 _ _ _ _
   | exact ih1 _ _ _ _ _
   | exact ih2 _ _ _ _ _
   | exact ih3 _ _ _ _ _
   | exact barrowref02_number.mono _ _ _
   | exact LeO.none _
   | refine LeO.ite ?_ ?_
   | refine LeO.bind ?_ (fun _ => ?_)
set_option maxHeartbeats 8000000 in
set_option maxRecDepth 100000 in
theorem barrowref02_Compare.calls (k : Nat) (a0 : ByteArray) (a1 : ByteArray) (r : Int) (w : World) (h : barrowref02_Compare.f k a0 a1 = some r) :
  Calls Tryd.prog 29 #[.string a0, .string a1] w fun e w' => e = .returned (.int .i64 r) ∧ Drawn0 w w' := by
 have H : (barrowref02_Compare.l0 k a0 a1 0 0) = some r := h
 clear h
 have H' := Aside0.mk H
 clear H
 go_enter Tryd.func29, Tryd.ntmps29
 go_wp2
 repeat (go_quiet (fail); try go_wp2)
 go_loopg [5, 6] k (fun kq v5 v6 w' => ∃ (x5_1 : Int) (x6_1 : Int), v5 = .int .i64 x5_1 ∧ v6 = .int .i64 x6_1 ∧ Aside0 (barrowref02_Compare.l0 kq a0 a1 x5_1 x6_1 = some r) ∧ Aside0 (kq ≤ k) ∧ Drawn0 w w')
 case atStart => exact ⟨(0), (0), (by first | rfl | (simp; done) | (simp [*]; done)), (by first | rfl | (simp; done) | (simp [*]; done)), H', ⟨Nat.le_refl _⟩, by repeat (first | exact Drawn0.refl _ | apply Drawn0.step)⟩
 case round =>
  clear H'
  try clear c2
  try clear p2
  obtain ⟨x5_1, x6_1, rfl, rfl, HA, HK1, ⟨m1, rfl⟩⟩ := hrel
  cases gk with
  | zero => exact absurd HA.out (by simp [barrowref02_Compare.l0])
  | succ k1 =>
   have H := HA.out
   clear HA
   simp only [barrowref02_Compare.l0] at H
   have HC3 := Aside0.mk H
   clear H
   go_upto_region 2 with (fail)
   repeat (go_quiet (fail); go_upto_region 2 with (fail))
   go_cut [21] (fun v21 wc => ∃ (kq : Nat) (x21_2 : Bool), v21 = .bool x21_2 ∧ Aside0 (barrowref02_Compare.j1 kq a0 a1 x5_1 x6_1 x21_2 = some r) ∧ Aside0 (kq ≤ k1) ∧ Drawn0 w wc)
   case first =>
    have H := HC3.out
    clear HC3
    by_cases c4 : x5_1 < (a0.size : Int)
    ·rw [if_pos c4] at H
     have c4b0 : decide (x5_1 < (a0.size : Int)) = true := decide_eq_true c4
     clear c4
     (first | rw [c4b0] | (simp only [i64_w, i32_w]; rw [c4b0]) | skip)
     have H' := Aside0.mk H
     clear H
     go_wp2
     repeat (go_quiet (fail); try go_wp2)
     go_meet
     case rel => exact ⟨_, (decide (x6_1 < (a1.size : Int))), (by first | rfl | (simp; done) | (simp [*]; done)), H', ⟨by have := HK1.out; first | omega | exact Nat.le_refl _⟩, by repeat (first | exact Drawn0.refl _ | apply Drawn0.step)⟩
    ·rw [if_neg c4] at H
     have c4b0 : decide (x5_1 < (a0.size : Int)) = false := decide_eq_false c4
     clear c4
     (first | rw [c4b0] | (simp only [i64_w, i32_w]; rw [c4b0]) | skip)
     have H' := Aside0.mk H
     clear H
     go_wp2
     repeat (go_quiet (fail); try go_wp2)
     go_meet
     case rel => exact ⟨_, (false), (by first | rfl | (simp; done) | (simp [*]; done)), H', ⟨by have := HK1.out; first | omega | exact Nat.le_refl _⟩, by repeat (first | exact Drawn0.refl _ | apply Drawn0.step)⟩
   case rest =>
    clear HC3
    try clear c2
    try clear p2
    try clear c4
    try clear c4b0
    try clear p2
    obtain ⟨kq, x21_2, rfl, HA, HJ2, ⟨mc2, rfl⟩⟩ := hcut
    cases kq with
    | zero => exact absurd HA.out (by simp [barrowref02_Compare.j1])
    | succ kj2 =>
     have H := HA.out
     clear HA
     simp only [barrowref02_Compare.j1] at H
     by_cases c5 : x21_2 = true
     ·subst c5
      have H1 : (if 0 ≤ x5_1 then (if x5_1 < (a0.size : Int) then ((barrowref02_digit.f (bt a0 x5_1)).bind fun t102 => (if t102 = true then (if 0 ≤ x6_1 then (if x6_1 < (a1.size : Int) then ((barrowref02_digit.f (bt a1 x6_1)).bind fun t103 => (barrowref02_Compare.j2 kj2 a0 a1 x5_1 x6_1 t103)) else (none)) else (none)) else (barrowref02_Compare.j2 kj2 a0 a1 x5_1 x6_1 false))) else (none)) else (none)) = some r := by rw [if_pos rfl] at H; exact H
      clear H
      have H := H1
      clear H1
      have HC6 := Aside0.mk H
      clear H
      go_upto_region 3 with (fail)
      repeat (go_quiet (fail); go_upto_region 3 with (fail))
      go_cut [31] (fun v31 wc => ∃ (kq : Nat) (x31_5 : Bool), v31 = .bool x31_5 ∧ Aside0 (barrowref02_Compare.j2 kq a0 a1 x5_1 x6_1 x31_5 = some r) ∧ Aside0 (kq ≤ kj2) ∧ Drawn0 w wc)
      case first =>
       have H := HC6.out
       clear HC6
       by_cases c7 : 0 ≤ x5_1
       ·rw [if_pos c7] at H
        have c7b0 : decide (0 ≤ x5_1) = true := decide_eq_true c7
        clear c7
        (first | rw [c7b0] | (simp only [i64_w, i32_w]; rw [c7b0]) | skip)
        by_cases c8 : x5_1 < (a0.size : Int)
        ·rw [if_pos c8] at H
         have c8b0 : decide (x5_1 < (a0.size : Int)) = true := decide_eq_true c8
         clear c8
         replace H := Option.bind_eq_some_iff.mp H
         obtain ⟨t102, A100, H⟩ := H
         replace H : (if t102 = true then (if 0 ≤ x6_1 then (if x6_1 < (a1.size : Int) then ((barrowref02_digit.f (bt a1 x6_1)).bind fun t103 => (barrowref02_Compare.j2 kj2 a0 a1 x5_1 x6_1 t103)) else (none)) else (none)) else (barrowref02_Compare.j2 kj2 a0 a1 x5_1 x6_1 false)) = some r := H
         have A10 := Aside0.mk A100
         clear A100
         by_cases c11 : t102 = true
         ·subst c11
          have H1 : (if 0 ≤ x6_1 then (if x6_1 < (a1.size : Int) then ((barrowref02_digit.f (bt a1 x6_1)).bind fun t103 => (barrowref02_Compare.j2 kj2 a0 a1 x5_1 x6_1 t103)) else (none)) else (none)) = some r := by rw [if_pos rfl] at H; exact H
          clear H
          have H := H1
          clear H1
          by_cases c12 : 0 ≤ x6_1
          ·rw [if_pos c12] at H
           have c12b0 : decide (0 ≤ x6_1) = true := decide_eq_true c12
           clear c12
           by_cases c13 : x6_1 < (a1.size : Int)
           ·rw [if_pos c13] at H
            have c13b0 : decide (x6_1 < (a1.size : Int)) = true := decide_eq_true c13
            clear c13
            replace H := Option.bind_eq_some_iff.mp H
            obtain ⟨t103, A150, H⟩ := H
            replace H : (barrowref02_Compare.j2 kj2 a0 a1 x5_1 x6_1 t103) = some r := H
            have A15 := Aside0.mk A150
            clear A150
            have H' := Aside0.mk H
            clear H
            have p9 : 0 ≤ (x5_1 : Int) := of_decide_eq_true (by first | (with_reducible assumption) | assumption)
            have q9 : x5_1 < (a0.size : Int) := of_decide_eq_true (by first | (with_reducible assumption) | assumption)
            have hx9 := bt_at a0 x5_1
            replace p9 := eq_true p9
            replace q9 := eq_true q9
            go_wp2_with (first | (go_at_call 37; (with_reducible refine (barrowref02_digit.calls (bt a0 x5_1) true _ A10.out).mono ?_); rintro e w' ⟨rfl, ⟨nd, rfl⟩⟩; (try first | exact ⟨rfl, _, World.drewN_drewN _ _ _⟩ | exact ⟨rfl, _, Eq.trans (World.drewN_drewN _ _ _) (congrArg (World.drewN _) (Nat.add_assoc _ _ _))⟩); have p14 : 0 ≤ (x6_1 : Int) := of_decide_eq_true (by first | (with_reducible assumption) | assumption); have q14 : x6_1 < (a1.size : Int) := of_decide_eq_true (by first | (with_reducible assumption) | assumption); have hx14 := bt_at a1 x6_1; replace p14 := eq_true p14; replace q14 := eq_true q14) | (go_at_call 37; (with_reducible refine (barrowref02_digit.calls (bt a1 x6_1) t103 _ A15.out).mono ?_); rintro e w' ⟨rfl, ⟨nd, rfl⟩⟩; (try first | exact ⟨rfl, _, World.drewN_drewN _ _ _⟩ | exact ⟨rfl, _, Eq.trans (World.drewN_drewN _ _ _) (congrArg (World.drewN _) (Nat.add_assoc _ _ _))⟩)))
            repeat (go_quiet (first | (go_at_call 37; (with_reducible refine (barrowref02_digit.calls (bt a0 x5_1) true _ A10.out).mono ?_); rintro e w' ⟨rfl, ⟨nd, rfl⟩⟩; (try first | exact ⟨rfl, _, World.drewN_drewN _ _ _⟩ | exact ⟨rfl, _, Eq.trans (World.drewN_drewN _ _ _) (congrArg (World.drewN _) (Nat.add_assoc _ _ _))⟩); have p14 : 0 ≤ (x6_1 : Int) := of_decide_eq_true (by first | (with_reducible assumption) | assumption); have q14 : x6_1 < (a1.size : Int) := of_decide_eq_true (by first | (with_reducible assumption) | assumption); have hx14 := bt_at a1 x6_1; replace p14 := eq_true p14; replace q14 := eq_true q14) | (go_at_call 37; (with_reducible refine (barrowref02_digit.calls (bt a1 x6_1) t103 _ A15.out).mono ?_); rintro e w' ⟨rfl, ⟨nd, rfl⟩⟩; (try first | exact ⟨rfl, _, World.drewN_drewN _ _ _⟩ | exact ⟨rfl, _, Eq.trans (World.drewN_drewN _ _ _) (congrArg (World.drewN _) (Nat.add_assoc _ _ _))⟩))); try go_wp2_with (first | (go_at_call 37; (with_reducible refine (barrowref02_digit.calls (bt a0 x5_1) true _ A10.out).mono ?_); rintro e w' ⟨rfl, ⟨nd, rfl⟩⟩; (try first | exact ⟨rfl, _, World.drewN_drewN _ _ _⟩ | exact ⟨rfl, _, Eq.trans (World.drewN_drewN _ _ _) (congrArg (World.drewN _) (Nat.add_assoc _ _ _))⟩); have p14 : 0 ≤ (x6_1 : Int) := of_decide_eq_true (by first | (with_reducible assumption) | assumption); have q14 : x6_1 < (a1.size : Int) := of_decide_eq_true (by first | (with_reducible assumption) | assumption); have hx14 := bt_at a1 x6_1; replace p14 := eq_true p14; replace q14 := eq_true q14) | (go_at_call 37; (with_reducible refine (barrowref02_digit.calls (bt a1 x6_1) t103 _ A15.out).mono ?_); rintro e w' ⟨rfl, ⟨nd, rfl⟩⟩; (try first | exact ⟨rfl, _, World.drewN_drewN _ _ _⟩ | exact ⟨rfl, _, Eq.trans (World.drewN_drewN _ _ _) (congrArg (World.drewN _) (Nat.add_assoc _ _ _))⟩))))
            go_meet
            case rel => exact ⟨_, (t103), (by first | rfl | (simp; done) | (simp [*]; done)), H', ⟨by have := HK1.out; have := HJ2.out; first | omega | exact Nat.le_refl _⟩, by repeat (first | exact Drawn0.refl _ | apply Drawn0.step)⟩
           ·rw [if_neg c13] at H
            exact absurd H (by simp)
          ·rw [if_neg c12] at H
           exact absurd H (by simp)
         ·replace c11 := Bool.eq_false_iff.mpr c11
          subst c11
          have H1 : (barrowref02_Compare.j2 kj2 a0 a1 x5_1 x6_1 false) = some r := by rw [if_neg (show ¬ (false = true) by decide)] at H; exact H
          clear H
          have H := H1
          clear H1
          have H' := Aside0.mk H
          clear H
          have p9 : 0 ≤ (x5_1 : Int) := of_decide_eq_true (by first | (with_reducible assumption) | assumption)
          have q9 : x5_1 < (a0.size : Int) := of_decide_eq_true (by first | (with_reducible assumption) | assumption)
          have hx9 := bt_at a0 x5_1
          replace p9 := eq_true p9
          replace q9 := eq_true q9
          go_wp2_with (first | (go_at_call 37; (with_reducible refine (barrowref02_digit.calls (bt a0 x5_1) false _ A10.out).mono ?_); rintro e w' ⟨rfl, ⟨nd, rfl⟩⟩; (try first | exact ⟨rfl, _, World.drewN_drewN _ _ _⟩ | exact ⟨rfl, _, Eq.trans (World.drewN_drewN _ _ _) (congrArg (World.drewN _) (Nat.add_assoc _ _ _))⟩)))
          repeat (go_quiet (first | (go_at_call 37; (with_reducible refine (barrowref02_digit.calls (bt a0 x5_1) false _ A10.out).mono ?_); rintro e w' ⟨rfl, ⟨nd, rfl⟩⟩; (try first | exact ⟨rfl, _, World.drewN_drewN _ _ _⟩ | exact ⟨rfl, _, Eq.trans (World.drewN_drewN _ _ _) (congrArg (World.drewN _) (Nat.add_assoc _ _ _))⟩))); try go_wp2_with (first | (go_at_call 37; (with_reducible refine (barrowref02_digit.calls (bt a0 x5_1) false _ A10.out).mono ?_); rintro e w' ⟨rfl, ⟨nd, rfl⟩⟩; (try first | exact ⟨rfl, _, World.drewN_drewN _ _ _⟩ | exact ⟨rfl, _, Eq.trans (World.drewN_drewN _ _ _) (congrArg (World.drewN _) (Nat.add_assoc _ _ _))⟩))))
          go_meet
          case rel => exact ⟨_, (false), (by first | rfl | (simp; done) | (simp [*]; done)), H', ⟨by have := HK1.out; have := HJ2.out; first | omega | exact Nat.le_refl _⟩, by repeat (first | exact Drawn0.refl _ | apply Drawn0.step)⟩
        ·rw [if_neg c8] at H
         exact absurd H (by simp)
       ·rw [if_neg c7] at H
        exact absurd H (by simp)
      case rest =>
       clear HC6
       try clear c1
       try clear p1
       try clear q1
       try clear hx1
       try clear c2
       try clear p2
       try clear c4
       try clear c4b0
       try clear c5
       try clear c7
       try clear c7b0
       try clear c8
       try clear c8b0
       try clear p9
       try clear q9
       try clear hx9
       try clear c11
       try clear c12
       try clear c12b0
       try clear c13
       try clear c13b0
       try clear p14
       try clear q14
       try clear hx14
       try clear p14
       try clear p2
       try clear p9
       try clear q14
       try clear q9
       obtain ⟨kq, x31_5, rfl, HA, HJ5, ⟨mc5, rfl⟩⟩ := hcut
       cases kq with
       | zero => exact absurd HA.out (by simp [barrowref02_Compare.j2])
       | succ kj5 =>
        have H := HA.out
        clear HA
        simp only [barrowref02_Compare.j2] at H
        by_cases c16 : x31_5 = true
        ·subst c16
         have H1 : ((barrowref02_number.f kj5 a0 x5_1).bind fun bt104 => ((barrowref02_number.f kj5 a1 x6_1).bind fun bt106 => (if (bt104.1.size : Int) < (bt106.1.size : Int) then (some (-1)) else (if (bt104.1.size : Int) > (bt106.1.size : Int) then (some 1) else ((barrowref02_bytesOrder.f bt104.1 bt106.1).bind fun t108 => (if t108 = 0 then (barrowref02_Compare.l0 kj5 a0 a1 bt104.2 bt106.2) else (some t108))))))) = some r := by rw [if_pos rfl] at H; exact H
         clear H
         have H := H1
         clear H1
         replace H := Option.bind_eq_some_iff.mp H
         obtain ⟨⟨t104, t105⟩, A170, H⟩ := H
         replace H : ((barrowref02_number.f kj5 a1 x6_1).bind fun bt106 => (if (t104.size : Int) < (bt106.1.size : Int) then (some (-1)) else (if (t104.size : Int) > (bt106.1.size : Int) then (some 1) else ((barrowref02_bytesOrder.f t104 bt106.1).bind fun t108 => (if t108 = 0 then (barrowref02_Compare.l0 kj5 a0 a1 t105 bt106.2) else (some t108)))))) = some r := H
         have A17 := Aside0.mk A170
         clear A170
         replace H := Option.bind_eq_some_iff.mp H
         obtain ⟨⟨t106, t107⟩, A180, H⟩ := H
         replace H : (if (t104.size : Int) < (t106.size : Int) then (some (-1)) else (if (t104.size : Int) > (t106.size : Int) then (some 1) else ((barrowref02_bytesOrder.f t104 t106).bind fun t108 => (if t108 = 0 then (barrowref02_Compare.l0 kj5 a0 a1 t105 t107) else (some t108))))) = some r := H
         have A18 := Aside0.mk A180
         clear A180
         by_cases c19 : (t104.size : Int) < (t106.size : Int)
         ·rw [if_pos c19] at H
          have c19b0 : decide ((t104.size : Int) < (t106.size : Int)) = true := decide_eq_true c19
          have c19b1 : decide (t104.size < t106.size) = true := decide_eq_true (Int.ofNat_lt.mp c19)
          clear c19
          obtain rfl := Option.some.inj H
          go_wp2_with (first | (go_at_call 38; (with_reducible refine (barrowref02_number.calls kj5 a0 x5_1 t104 t105 _ A17.out).mono ?_); rintro e w' ⟨rfl, ⟨nd, rfl⟩⟩; (try first | exact ⟨rfl, _, World.drewN_drewN _ _ _⟩ | exact ⟨rfl, _, Eq.trans (World.drewN_drewN _ _ _) (congrArg (World.drewN _) (Nat.add_assoc _ _ _))⟩)) | (go_at_call 38; (with_reducible refine (barrowref02_number.calls kj5 a1 x6_1 t106 t107 _ A18.out).mono ?_); rintro e w' ⟨rfl, ⟨nd, rfl⟩⟩; (try first | exact ⟨rfl, _, World.drewN_drewN _ _ _⟩ | exact ⟨rfl, _, Eq.trans (World.drewN_drewN _ _ _) (congrArg (World.drewN _) (Nat.add_assoc _ _ _))⟩)))
          repeat (go_quiet (first | (go_at_call 38; (with_reducible refine (barrowref02_number.calls kj5 a0 x5_1 t104 t105 _ A17.out).mono ?_); rintro e w' ⟨rfl, ⟨nd, rfl⟩⟩; (try first | exact ⟨rfl, _, World.drewN_drewN _ _ _⟩ | exact ⟨rfl, _, Eq.trans (World.drewN_drewN _ _ _) (congrArg (World.drewN _) (Nat.add_assoc _ _ _))⟩)) | (go_at_call 38; (with_reducible refine (barrowref02_number.calls kj5 a1 x6_1 t106 t107 _ A18.out).mono ?_); rintro e w' ⟨rfl, ⟨nd, rfl⟩⟩; (try first | exact ⟨rfl, _, World.drewN_drewN _ _ _⟩ | exact ⟨rfl, _, Eq.trans (World.drewN_drewN _ _ _) (congrArg (World.drewN _) (Nat.add_assoc _ _ _))⟩))); try go_wp2_with (first | (go_at_call 38; (with_reducible refine (barrowref02_number.calls kj5 a0 x5_1 t104 t105 _ A17.out).mono ?_); rintro e w' ⟨rfl, ⟨nd, rfl⟩⟩; (try first | exact ⟨rfl, _, World.drewN_drewN _ _ _⟩ | exact ⟨rfl, _, Eq.trans (World.drewN_drewN _ _ _) (congrArg (World.drewN _) (Nat.add_assoc _ _ _))⟩)) | (go_at_call 38; (with_reducible refine (barrowref02_number.calls kj5 a1 x6_1 t106 t107 _ A18.out).mono ?_); rintro e w' ⟨rfl, ⟨nd, rfl⟩⟩; (try first | exact ⟨rfl, _, World.drewN_drewN _ _ _⟩ | exact ⟨rfl, _, Eq.trans (World.drewN_drewN _ _ _) (congrArg (World.drewN _) (Nat.add_assoc _ _ _))⟩))))
          go_ret
          exact ⟨by first | rfl | (simp; done) | (simp [*]; done), by repeat (first | exact Drawn0.refl _ | apply Drawn0.step)⟩
         ·rw [if_neg c19] at H
          have c19b0 : decide ((t104.size : Int) < (t106.size : Int)) = false := decide_eq_false c19
          have c19b1 : decide (t104.size < t106.size) = false := decide_eq_false (fun h => c19 (Int.ofNat_lt.mpr h))
          clear c19
          by_cases c20 : (t104.size : Int) > (t106.size : Int)
          ·rw [if_pos c20] at H
           have c20b0 : decide ((t106.size : Int) < (t104.size : Int)) = true := decide_eq_true c20
           have c20b1 : decide (t106.size < t104.size) = true := decide_eq_true (Int.ofNat_lt.mp c20)
           clear c20
           obtain rfl := Option.some.inj H
           go_wp2_with (first | (go_at_call 38; (with_reducible refine (barrowref02_number.calls kj5 a0 x5_1 t104 t105 _ A17.out).mono ?_); rintro e w' ⟨rfl, ⟨nd, rfl⟩⟩; (try first | exact ⟨rfl, _, World.drewN_drewN _ _ _⟩ | exact ⟨rfl, _, Eq.trans (World.drewN_drewN _ _ _) (congrArg (World.drewN _) (Nat.add_assoc _ _ _))⟩)) | (go_at_call 38; (with_reducible refine (barrowref02_number.calls kj5 a1 x6_1 t106 t107 _ A18.out).mono ?_); rintro e w' ⟨rfl, ⟨nd, rfl⟩⟩; (try first | exact ⟨rfl, _, World.drewN_drewN _ _ _⟩ | exact ⟨rfl, _, Eq.trans (World.drewN_drewN _ _ _) (congrArg (World.drewN _) (Nat.add_assoc _ _ _))⟩)))
           repeat (go_quiet (first | (go_at_call 38; (with_reducible refine (barrowref02_number.calls kj5 a0 x5_1 t104 t105 _ A17.out).mono ?_); rintro e w' ⟨rfl, ⟨nd, rfl⟩⟩; (try first | exact ⟨rfl, _, World.drewN_drewN _ _ _⟩ | exact ⟨rfl, _, Eq.trans (World.drewN_drewN _ _ _) (congrArg (World.drewN _) (Nat.add_assoc _ _ _))⟩)) | (go_at_call 38; (with_reducible refine (barrowref02_number.calls kj5 a1 x6_1 t106 t107 _ A18.out).mono ?_); rintro e w' ⟨rfl, ⟨nd, rfl⟩⟩; (try first | exact ⟨rfl, _, World.drewN_drewN _ _ _⟩ | exact ⟨rfl, _, Eq.trans (World.drewN_drewN _ _ _) (congrArg (World.drewN _) (Nat.add_assoc _ _ _))⟩))); try go_wp2_with (first | (go_at_call 38; (with_reducible refine (barrowref02_number.calls kj5 a0 x5_1 t104 t105 _ A17.out).mono ?_); rintro e w' ⟨rfl, ⟨nd, rfl⟩⟩; (try first | exact ⟨rfl, _, World.drewN_drewN _ _ _⟩ | exact ⟨rfl, _, Eq.trans (World.drewN_drewN _ _ _) (congrArg (World.drewN _) (Nat.add_assoc _ _ _))⟩)) | (go_at_call 38; (with_reducible refine (barrowref02_number.calls kj5 a1 x6_1 t106 t107 _ A18.out).mono ?_); rintro e w' ⟨rfl, ⟨nd, rfl⟩⟩; (try first | exact ⟨rfl, _, World.drewN_drewN _ _ _⟩ | exact ⟨rfl, _, Eq.trans (World.drewN_drewN _ _ _) (congrArg (World.drewN _) (Nat.add_assoc _ _ _))⟩))))
           go_ret
           exact ⟨by first | rfl | (simp; done) | (simp [*]; done), by repeat (first | exact Drawn0.refl _ | apply Drawn0.step)⟩
          ·rw [if_neg c20] at H
           have c20b0 : decide ((t106.size : Int) < (t104.size : Int)) = false := decide_eq_false c20
           have c20b1 : decide (t106.size < t104.size) = false := decide_eq_false (fun h => c20 (Int.ofNat_lt.mpr h))
           clear c20
           replace H := Option.bind_eq_some_iff.mp H
           obtain ⟨t108, A210, H⟩ := H
           replace H : (if t108 = 0 then (barrowref02_Compare.l0 kj5 a0 a1 t105 t107) else (some t108)) = some r := H
           have A21 := Aside0.mk A210
           clear A210
           by_cases c22 : t108 = 0
           ·rw [if_pos c22] at H
            have c22b0 : (t108 == 0) = true := beq_iff_eq.mpr c22
            have c22b1 : (t108 != 0) = false := bne_eq_false_iff_eq.mpr c22
            clear c22
            have H' := Aside0.mk H
            clear H
            go_wp2_with (first | (go_at_call 38; (with_reducible refine (barrowref02_number.calls kj5 a0 x5_1 t104 t105 _ A17.out).mono ?_); rintro e w' ⟨rfl, ⟨nd, rfl⟩⟩; (try first | exact ⟨rfl, _, World.drewN_drewN _ _ _⟩ | exact ⟨rfl, _, Eq.trans (World.drewN_drewN _ _ _) (congrArg (World.drewN _) (Nat.add_assoc _ _ _))⟩)) | (go_at_call 38; (with_reducible refine (barrowref02_number.calls kj5 a1 x6_1 t106 t107 _ A18.out).mono ?_); rintro e w' ⟨rfl, ⟨nd, rfl⟩⟩; (try first | exact ⟨rfl, _, World.drewN_drewN _ _ _⟩ | exact ⟨rfl, _, Eq.trans (World.drewN_drewN _ _ _) (congrArg (World.drewN _) (Nat.add_assoc _ _ _))⟩)) | (go_at_call 39; (with_reducible refine (barrowref02_bytesOrder.calls t104 t106 t108 _ A21.out).mono ?_); rintro e w' ⟨rfl, ⟨nd, rfl⟩⟩; (try first | exact ⟨rfl, _, World.drewN_drewN _ _ _⟩ | exact ⟨rfl, _, Eq.trans (World.drewN_drewN _ _ _) (congrArg (World.drewN _) (Nat.add_assoc _ _ _))⟩)))
            repeat (go_quiet (first | (go_at_call 38; (with_reducible refine (barrowref02_number.calls kj5 a0 x5_1 t104 t105 _ A17.out).mono ?_); rintro e w' ⟨rfl, ⟨nd, rfl⟩⟩; (try first | exact ⟨rfl, _, World.drewN_drewN _ _ _⟩ | exact ⟨rfl, _, Eq.trans (World.drewN_drewN _ _ _) (congrArg (World.drewN _) (Nat.add_assoc _ _ _))⟩)) | (go_at_call 38; (with_reducible refine (barrowref02_number.calls kj5 a1 x6_1 t106 t107 _ A18.out).mono ?_); rintro e w' ⟨rfl, ⟨nd, rfl⟩⟩; (try first | exact ⟨rfl, _, World.drewN_drewN _ _ _⟩ | exact ⟨rfl, _, Eq.trans (World.drewN_drewN _ _ _) (congrArg (World.drewN _) (Nat.add_assoc _ _ _))⟩)) | (go_at_call 39; (with_reducible refine (barrowref02_bytesOrder.calls t104 t106 t108 _ A21.out).mono ?_); rintro e w' ⟨rfl, ⟨nd, rfl⟩⟩; (try first | exact ⟨rfl, _, World.drewN_drewN _ _ _⟩ | exact ⟨rfl, _, Eq.trans (World.drewN_drewN _ _ _) (congrArg (World.drewN _) (Nat.add_assoc _ _ _))⟩))); try go_wp2_with (first | (go_at_call 38; (with_reducible refine (barrowref02_number.calls kj5 a0 x5_1 t104 t105 _ A17.out).mono ?_); rintro e w' ⟨rfl, ⟨nd, rfl⟩⟩; (try first | exact ⟨rfl, _, World.drewN_drewN _ _ _⟩ | exact ⟨rfl, _, Eq.trans (World.drewN_drewN _ _ _) (congrArg (World.drewN _) (Nat.add_assoc _ _ _))⟩)) | (go_at_call 38; (with_reducible refine (barrowref02_number.calls kj5 a1 x6_1 t106 t107 _ A18.out).mono ?_); rintro e w' ⟨rfl, ⟨nd, rfl⟩⟩; (try first | exact ⟨rfl, _, World.drewN_drewN _ _ _⟩ | exact ⟨rfl, _, Eq.trans (World.drewN_drewN _ _ _) (congrArg (World.drewN _) (Nat.add_assoc _ _ _))⟩)) | (go_at_call 39; (with_reducible refine (barrowref02_bytesOrder.calls t104 t106 t108 _ A21.out).mono ?_); rintro e w' ⟨rfl, ⟨nd, rfl⟩⟩; (try first | exact ⟨rfl, _, World.drewN_drewN _ _ _⟩ | exact ⟨rfl, _, Eq.trans (World.drewN_drewN _ _ _) (congrArg (World.drewN _) (Nat.add_assoc _ _ _))⟩))))
            go_roundg kj5
            case measure => have := HK1.out; have := HJ2.out; have := HJ5.out; omega
            case rel => exact ⟨(t105), (t107), (by first | rfl | (simp; done) | (simp [*]; done)), (by first | rfl | (simp; done) | (simp [*]; done)), H', ⟨by have := HK1.out; have := HJ2.out; have := HJ5.out; omega⟩, by repeat (first | exact Drawn0.refl _ | apply Drawn0.step)⟩
           ·rw [if_neg c22] at H
            have c22b0 : (t108 == 0) = false := beq_eq_false_iff_ne.mpr c22
            have c22b1 : (t108 != 0) = true := bne_iff_ne.mpr c22
            obtain rfl := Option.some.inj H
            go_wp2_with (first | (go_at_call 38; (with_reducible refine (barrowref02_number.calls kj5 a0 x5_1 t104 t105 _ A17.out).mono ?_); rintro e w' ⟨rfl, ⟨nd, rfl⟩⟩; (try first | exact ⟨rfl, _, World.drewN_drewN _ _ _⟩ | exact ⟨rfl, _, Eq.trans (World.drewN_drewN _ _ _) (congrArg (World.drewN _) (Nat.add_assoc _ _ _))⟩)) | (go_at_call 38; (with_reducible refine (barrowref02_number.calls kj5 a1 x6_1 t106 t107 _ A18.out).mono ?_); rintro e w' ⟨rfl, ⟨nd, rfl⟩⟩; (try first | exact ⟨rfl, _, World.drewN_drewN _ _ _⟩ | exact ⟨rfl, _, Eq.trans (World.drewN_drewN _ _ _) (congrArg (World.drewN _) (Nat.add_assoc _ _ _))⟩)) | (go_at_call 39; (with_reducible refine (barrowref02_bytesOrder.calls t104 t106 t108 _ A21.out).mono ?_); rintro e w' ⟨rfl, ⟨nd, rfl⟩⟩; (try first | exact ⟨rfl, _, World.drewN_drewN _ _ _⟩ | exact ⟨rfl, _, Eq.trans (World.drewN_drewN _ _ _) (congrArg (World.drewN _) (Nat.add_assoc _ _ _))⟩)))
            repeat (go_quiet (first | (go_at_call 38; (with_reducible refine (barrowref02_number.calls kj5 a0 x5_1 t104 t105 _ A17.out).mono ?_); rintro e w' ⟨rfl, ⟨nd, rfl⟩⟩; (try first | exact ⟨rfl, _, World.drewN_drewN _ _ _⟩ | exact ⟨rfl, _, Eq.trans (World.drewN_drewN _ _ _) (congrArg (World.drewN _) (Nat.add_assoc _ _ _))⟩)) | (go_at_call 38; (with_reducible refine (barrowref02_number.calls kj5 a1 x6_1 t106 t107 _ A18.out).mono ?_); rintro e w' ⟨rfl, ⟨nd, rfl⟩⟩; (try first | exact ⟨rfl, _, World.drewN_drewN _ _ _⟩ | exact ⟨rfl, _, Eq.trans (World.drewN_drewN _ _ _) (congrArg (World.drewN _) (Nat.add_assoc _ _ _))⟩)) | (go_at_call 39; (with_reducible refine (barrowref02_bytesOrder.calls t104 t106 t108 _ A21.out).mono ?_); rintro e w' ⟨rfl, ⟨nd, rfl⟩⟩; (try first | exact ⟨rfl, _, World.drewN_drewN _ _ _⟩ | exact ⟨rfl, _, Eq.trans (World.drewN_drewN _ _ _) (congrArg (World.drewN _) (Nat.add_assoc _ _ _))⟩))); try go_wp2_with (first | (go_at_call 38; (with_reducible refine (barrowref02_number.calls kj5 a0 x5_1 t104 t105 _ A17.out).mono ?_); rintro e w' ⟨rfl, ⟨nd, rfl⟩⟩; (try first | exact ⟨rfl, _, World.drewN_drewN _ _ _⟩ | exact ⟨rfl, _, Eq.trans (World.drewN_drewN _ _ _) (congrArg (World.drewN _) (Nat.add_assoc _ _ _))⟩)) | (go_at_call 38; (with_reducible refine (barrowref02_number.calls kj5 a1 x6_1 t106 t107 _ A18.out).mono ?_); rintro e w' ⟨rfl, ⟨nd, rfl⟩⟩; (try first | exact ⟨rfl, _, World.drewN_drewN _ _ _⟩ | exact ⟨rfl, _, Eq.trans (World.drewN_drewN _ _ _) (congrArg (World.drewN _) (Nat.add_assoc _ _ _))⟩)) | (go_at_call 39; (with_reducible refine (barrowref02_bytesOrder.calls t104 t106 t108 _ A21.out).mono ?_); rintro e w' ⟨rfl, ⟨nd, rfl⟩⟩; (try first | exact ⟨rfl, _, World.drewN_drewN _ _ _⟩ | exact ⟨rfl, _, Eq.trans (World.drewN_drewN _ _ _) (congrArg (World.drewN _) (Nat.add_assoc _ _ _))⟩))))
            go_ret
            exact ⟨by first | rfl | (simp; done) | (simp [*]; done), by repeat (first | exact Drawn0.refl _ | apply Drawn0.step)⟩
        ·replace c16 := Bool.eq_false_iff.mpr c16
         subst c16
         have H1 : (if 0 ≤ x5_1 then (if x5_1 < (a0.size : Int) then (if 0 ≤ x6_1 then (if x6_1 < (a1.size : Int) then (if (bt a0 x5_1) < (bt a1 x6_1) then (some (-1)) else (if (bt a0 x5_1) > (bt a1 x6_1) then (some 1) else (barrowref02_Compare.l0 kj5 a0 a1 (wrap64 (x5_1 + 1)) (wrap64 (x6_1 + 1))))) else (none)) else (none)) else (none)) else (none)) = some r := by rw [if_neg (show ¬ (false = true) by decide)] at H; exact H
         clear H
         have H := H1
         clear H1
         by_cases c23 : 0 ≤ x5_1
         ·rw [if_pos c23] at H
          have c23b0 : decide (0 ≤ x5_1) = true := decide_eq_true c23
          clear c23
          by_cases c24 : x5_1 < (a0.size : Int)
          ·rw [if_pos c24] at H
           have c24b0 : decide (x5_1 < (a0.size : Int)) = true := decide_eq_true c24
           clear c24
           by_cases c26 : 0 ≤ x6_1
           ·rw [if_pos c26] at H
            have c26b0 : decide (0 ≤ x6_1) = true := decide_eq_true c26
            clear c26
            by_cases c27 : x6_1 < (a1.size : Int)
            ·rw [if_pos c27] at H
             have c27b0 : decide (x6_1 < (a1.size : Int)) = true := decide_eq_true c27
             clear c27
             by_cases c29 : (bt a0 x5_1) < (bt a1 x6_1)
             ·rw [if_pos c29] at H
              have c29b0 : decide ((bt a0 x5_1) < (bt a1 x6_1)) = true := decide_eq_true c29
              clear c29
              obtain rfl := Option.some.inj H
              have p25 : 0 ≤ (x5_1 : Int) := of_decide_eq_true (by first | (with_reducible assumption) | assumption)
              have q25 : x5_1 < (a0.size : Int) := of_decide_eq_true (by first | (with_reducible assumption) | assumption)
              have hx25 := bt_at a0 x5_1
              replace p25 := eq_true p25
              replace q25 := eq_true q25
              have p28 : 0 ≤ (x6_1 : Int) := of_decide_eq_true (by first | (with_reducible assumption) | assumption)
              have q28 : x6_1 < (a1.size : Int) := of_decide_eq_true (by first | (with_reducible assumption) | assumption)
              have hx28 := bt_at a1 x6_1
              replace p28 := eq_true p28
              replace q28 := eq_true q28
              go_wp2
              repeat (go_quiet (fail); try go_wp2)
              go_ret
              exact ⟨by first | rfl | (simp; done) | (simp [*]; done), by repeat (first | exact Drawn0.refl _ | apply Drawn0.step)⟩
             ·rw [if_neg c29] at H
              have c29b0 : decide ((bt a0 x5_1) < (bt a1 x6_1)) = false := decide_eq_false c29
              clear c29
              by_cases c32 : (bt a0 x5_1) > (bt a1 x6_1)
              ·rw [if_pos c32] at H
               have c32b0 : decide ((bt a1 x6_1) < (bt a0 x5_1)) = true := decide_eq_true c32
               clear c32
               obtain rfl := Option.some.inj H
               have p25 : 0 ≤ (x5_1 : Int) := of_decide_eq_true (by first | (with_reducible assumption) | assumption)
               have q25 : x5_1 < (a0.size : Int) := of_decide_eq_true (by first | (with_reducible assumption) | assumption)
               have hx25 := bt_at a0 x5_1
               replace p25 := eq_true p25
               replace q25 := eq_true q25
               have p28 : 0 ≤ (x6_1 : Int) := of_decide_eq_true (by first | (with_reducible assumption) | assumption)
               have q28 : x6_1 < (a1.size : Int) := of_decide_eq_true (by first | (with_reducible assumption) | assumption)
               have hx28 := bt_at a1 x6_1
               replace p28 := eq_true p28
               replace q28 := eq_true q28
               have p30 : 0 ≤ (x5_1 : Int) := of_decide_eq_true (by first | (with_reducible assumption) | assumption)
               have q30 : x5_1 < (a0.size : Int) := of_decide_eq_true (by first | (with_reducible assumption) | assumption)
               have hx30 := bt_at a0 x5_1
               replace p30 := eq_true p30
               replace q30 := eq_true q30
               have p31 : 0 ≤ (x6_1 : Int) := of_decide_eq_true (by first | (with_reducible assumption) | assumption)
               have q31 : x6_1 < (a1.size : Int) := of_decide_eq_true (by first | (with_reducible assumption) | assumption)
               have hx31 := bt_at a1 x6_1
               replace p31 := eq_true p31
               replace q31 := eq_true q31
               go_wp2
               repeat (go_quiet (fail); try go_wp2)
               go_ret
               exact ⟨by first | rfl | (simp; done) | (simp [*]; done), by repeat (first | exact Drawn0.refl _ | apply Drawn0.step)⟩
              ·rw [if_neg c32] at H
               have c32b0 : decide ((bt a1 x6_1) < (bt a0 x5_1)) = false := decide_eq_false c32
               clear c32
               have H' := Aside0.mk H
               clear H
               have p25 : 0 ≤ (x5_1 : Int) := of_decide_eq_true (by first | (with_reducible assumption) | assumption)
               have q25 : x5_1 < (a0.size : Int) := of_decide_eq_true (by first | (with_reducible assumption) | assumption)
               have hx25 := bt_at a0 x5_1
               replace p25 := eq_true p25
               replace q25 := eq_true q25
               have p28 : 0 ≤ (x6_1 : Int) := of_decide_eq_true (by first | (with_reducible assumption) | assumption)
               have q28 : x6_1 < (a1.size : Int) := of_decide_eq_true (by first | (with_reducible assumption) | assumption)
               have hx28 := bt_at a1 x6_1
               replace p28 := eq_true p28
               replace q28 := eq_true q28
               have p30 : 0 ≤ (x5_1 : Int) := of_decide_eq_true (by first | (with_reducible assumption) | assumption)
               have q30 : x5_1 < (a0.size : Int) := of_decide_eq_true (by first | (with_reducible assumption) | assumption)
               have hx30 := bt_at a0 x5_1
               replace p30 := eq_true p30
               replace q30 := eq_true q30
               have p31 : 0 ≤ (x6_1 : Int) := of_decide_eq_true (by first | (with_reducible assumption) | assumption)
               have q31 : x6_1 < (a1.size : Int) := of_decide_eq_true (by first | (with_reducible assumption) | assumption)
               have hx31 := bt_at a1 x6_1
               replace p31 := eq_true p31
               replace q31 := eq_true q31
               go_wp2
               repeat (go_quiet (fail); try go_wp2)
               go_roundg kj5
               case measure => have := HK1.out; have := HJ2.out; have := HJ5.out; omega
               case rel => exact ⟨(wrap64 (x5_1 + 1)), (wrap64 (x6_1 + 1)), (by first | rfl | (simp; done) | (simp [*]; done)), (by first | rfl | (simp; done) | (simp [*]; done)), H', ⟨by have := HK1.out; have := HJ2.out; have := HJ5.out; omega⟩, by repeat (first | exact Drawn0.refl _ | apply Drawn0.step)⟩
            ·rw [if_neg c27] at H
             exact absurd H (by simp)
           ·rw [if_neg c26] at H
            exact absurd H (by simp)
          ·rw [if_neg c24] at H
           exact absurd H (by simp)
         ·rw [if_neg c23] at H
          exact absurd H (by simp)
     ·replace c5 := Bool.eq_false_iff.mpr c5
      subst c5
      have H1 : (if x5_1 = (a0.size : Int) then (barrowref02_Compare.j3 kj2 a0 a1 x5_1 x6_1 (decide (x6_1 < (a1.size : Int)))) else (barrowref02_Compare.j3 kj2 a0 a1 x5_1 x6_1 false)) = some r := by rw [if_neg (show ¬ (false = true) by decide)] at H; exact H
      clear H
      have H := H1
      clear H1
      have HC33 := Aside0.mk H
      clear H
      go_upto_region 20 with (fail)
      repeat (go_quiet (fail); go_upto_region 20 with (fail))
      go_cut [89] (fun v89 wc => ∃ (kq : Nat) (x89_32 : Bool), v89 = .bool x89_32 ∧ Aside0 (barrowref02_Compare.j3 kq a0 a1 x5_1 x6_1 x89_32 = some r) ∧ Aside0 (kq ≤ kj2) ∧ Drawn0 w wc)
      case first =>
       have H := HC33.out
       clear HC33
       by_cases c34 : x5_1 = (a0.size : Int)
       ·rw [if_pos c34] at H
        have c34b0 : (x5_1 == (a0.size : Int)) = true := beq_iff_eq.mpr c34
        have c34b1 : (x5_1 != (a0.size : Int)) = false := bne_eq_false_iff_eq.mpr c34
        clear c34
        (first | rw [c34b0] | (simp only [i64_w, i32_w]; rw [c34b0]) | skip)
        have H' := Aside0.mk H
        clear H
        go_wp2
        repeat (go_quiet (fail); try go_wp2)
        go_meet
        case rel => exact ⟨_, (decide (x6_1 < (a1.size : Int))), (by first | rfl | (simp; done) | (simp [*]; done)), H', ⟨by have := HK1.out; have := HJ2.out; first | omega | exact Nat.le_refl _⟩, by repeat (first | exact Drawn0.refl _ | apply Drawn0.step)⟩
       ·rw [if_neg c34] at H
        have c34b0 : (x5_1 == (a0.size : Int)) = false := beq_eq_false_iff_ne.mpr c34
        have c34b1 : (x5_1 != (a0.size : Int)) = true := bne_iff_ne.mpr c34
        (first | rw [c34b0] | (simp only [i64_w, i32_w]; rw [c34b0]) | skip)
        have H' := Aside0.mk H
        clear H
        go_wp2
        repeat (go_quiet (fail); try go_wp2)
        go_meet
        case rel => exact ⟨_, (false), (by first | rfl | (simp; done) | (simp [*]; done)), H', ⟨by have := HK1.out; have := HJ2.out; first | omega | exact Nat.le_refl _⟩, by repeat (first | exact Drawn0.refl _ | apply Drawn0.step)⟩
      case rest =>
       clear HC33
       try clear c1
       try clear p1
       try clear q1
       try clear hx1
       try clear c2
       try clear p2
       try clear q2
       try clear hx2
       try clear c3
       try clear p3
       try clear q3
       try clear hx3
       try clear c4
       try clear c4b0
       try clear c5
       try clear p6
       try clear c7
       try clear c7b0
       try clear c8
       try clear c8b0
       try clear p9
       try clear q9
       try clear hx9
       try clear c11
       try clear c12
       try clear c12b0
       try clear c13
       try clear c13b0
       try clear p14
       try clear q14
       try clear hx14
       try clear c16
       try clear c19
       try clear c19b0
       try clear c19b1
       try clear c20
       try clear c20b0
       try clear c20b1
       try clear c22
       try clear c22b0
       try clear c22b1
       try clear c23
       try clear c23b0
       try clear c24
       try clear c24b0
       try clear p25
       try clear q25
       try clear hx25
       try clear c26
       try clear c26b0
       try clear c27
       try clear c27b0
       try clear p28
       try clear q28
       try clear hx28
       try clear c29
       try clear c29b0
       try clear p30
       try clear q30
       try clear hx30
       try clear p31
       try clear q31
       try clear hx31
       try clear c32
       try clear c32b0
       try clear c34
       try clear c34b0
       try clear c34b1
       try clear p1
       try clear p14
       try clear p2
       try clear p25
       try clear p28
       try clear p30
       try clear p31
       try clear p9
       try clear q1
       try clear q14
       try clear q25
       try clear q28
       try clear q30
       try clear q31
       try clear q9
       obtain ⟨kq, x89_32, rfl, HA, HJ32, ⟨mc32, rfl⟩⟩ := hcut
       cases kq with
       | zero => exact absurd HA.out (by simp [barrowref02_Compare.j3])
       | succ kj32 =>
        have H := HA.out
        clear HA
        simp only [barrowref02_Compare.j3] at H
        by_cases c35 : x89_32 = true
        ·subst c35
         have H1 : (some (-1)) = some r := by rw [if_pos rfl] at H; exact H
         clear H
         have H := H1
         clear H1
         obtain rfl := Option.some.inj H
         go_wp2
         repeat (go_quiet (fail); try go_wp2)
         go_ret
         exact ⟨by first | rfl | (simp; done) | (simp [*]; done), by repeat (first | exact Drawn0.refl _ | apply Drawn0.step)⟩
        ·replace c35 := Bool.eq_false_iff.mpr c35
         subst c35
         have H1 : (if x5_1 < (a0.size : Int) then (if x6_1 = (a1.size : Int) then (some 1) else ((barrowref02_bytesOrder.f a0 a1).bind fun t109 => (some t109))) else ((barrowref02_bytesOrder.f a0 a1).bind fun t110 => (some t110))) = some r := by rw [if_neg (show ¬ (false = true) by decide)] at H; exact H
         clear H
         have H := H1
         clear H1
         by_cases c36 : x5_1 < (a0.size : Int)
         ·rw [if_pos c36] at H
          have c36b0 : decide (x5_1 < (a0.size : Int)) = true := decide_eq_true c36
          clear c36
          by_cases c37 : x6_1 = (a1.size : Int)
          ·rw [if_pos c37] at H
           have c37b0 : (x6_1 == (a1.size : Int)) = true := beq_iff_eq.mpr c37
           have c37b1 : (x6_1 != (a1.size : Int)) = false := bne_eq_false_iff_eq.mpr c37
           clear c37
           obtain rfl := Option.some.inj H
           go_wp2
           repeat (go_quiet (fail); try go_wp2)
           go_ret
           exact ⟨by first | rfl | (simp; done) | (simp [*]; done), by repeat (first | exact Drawn0.refl _ | apply Drawn0.step)⟩
          ·rw [if_neg c37] at H
           have c37b0 : (x6_1 == (a1.size : Int)) = false := beq_eq_false_iff_ne.mpr c37
           have c37b1 : (x6_1 != (a1.size : Int)) = true := bne_iff_ne.mpr c37
           replace H := Option.bind_eq_some_iff.mp H
           obtain ⟨t109, A380, H⟩ := H
           replace H : (some t109) = some r := H
           have A38 := Aside0.mk A380
           clear A380
           obtain rfl := Option.some.inj H
           go_wp2_with (first | (go_at_call 39; (with_reducible refine (barrowref02_bytesOrder.calls a0 a1 t109 _ A38.out).mono ?_); rintro e w' ⟨rfl, ⟨nd, rfl⟩⟩; (try first | exact ⟨rfl, _, World.drewN_drewN _ _ _⟩ | exact ⟨rfl, _, Eq.trans (World.drewN_drewN _ _ _) (congrArg (World.drewN _) (Nat.add_assoc _ _ _))⟩)))
           repeat (go_quiet (first | (go_at_call 39; (with_reducible refine (barrowref02_bytesOrder.calls a0 a1 t109 _ A38.out).mono ?_); rintro e w' ⟨rfl, ⟨nd, rfl⟩⟩; (try first | exact ⟨rfl, _, World.drewN_drewN _ _ _⟩ | exact ⟨rfl, _, Eq.trans (World.drewN_drewN _ _ _) (congrArg (World.drewN _) (Nat.add_assoc _ _ _))⟩))); try go_wp2_with (first | (go_at_call 39; (with_reducible refine (barrowref02_bytesOrder.calls a0 a1 t109 _ A38.out).mono ?_); rintro e w' ⟨rfl, ⟨nd, rfl⟩⟩; (try first | exact ⟨rfl, _, World.drewN_drewN _ _ _⟩ | exact ⟨rfl, _, Eq.trans (World.drewN_drewN _ _ _) (congrArg (World.drewN _) (Nat.add_assoc _ _ _))⟩))))
           go_ret
           exact ⟨by first | rfl | (simp; done) | (simp [*]; done), by repeat (first | exact Drawn0.refl _ | apply Drawn0.step)⟩
         ·rw [if_neg c36] at H
          have c36b0 : decide (x5_1 < (a0.size : Int)) = false := decide_eq_false c36
          clear c36
          replace H := Option.bind_eq_some_iff.mp H
          obtain ⟨t110, A390, H⟩ := H
          replace H : (some t110) = some r := H
          have A39 := Aside0.mk A390
          clear A390
          obtain rfl := Option.some.inj H
          go_wp2_with (first | (go_at_call 39; (with_reducible refine (barrowref02_bytesOrder.calls a0 a1 t110 _ A39.out).mono ?_); rintro e w' ⟨rfl, ⟨nd, rfl⟩⟩; (try first | exact ⟨rfl, _, World.drewN_drewN _ _ _⟩ | exact ⟨rfl, _, Eq.trans (World.drewN_drewN _ _ _) (congrArg (World.drewN _) (Nat.add_assoc _ _ _))⟩)))
          repeat (go_quiet (first | (go_at_call 39; (with_reducible refine (barrowref02_bytesOrder.calls a0 a1 t110 _ A39.out).mono ?_); rintro e w' ⟨rfl, ⟨nd, rfl⟩⟩; (try first | exact ⟨rfl, _, World.drewN_drewN _ _ _⟩ | exact ⟨rfl, _, Eq.trans (World.drewN_drewN _ _ _) (congrArg (World.drewN _) (Nat.add_assoc _ _ _))⟩))); try go_wp2_with (first | (go_at_call 39; (with_reducible refine (barrowref02_bytesOrder.calls a0 a1 t110 _ A39.out).mono ?_); rintro e w' ⟨rfl, ⟨nd, rfl⟩⟩; (try first | exact ⟨rfl, _, World.drewN_drewN _ _ _⟩ | exact ⟨rfl, _, Eq.trans (World.drewN_drewN _ _ _) (congrArg (World.drewN _) (Nat.add_assoc _ _ _))⟩))))
          go_ret
          exact ⟨by first | rfl | (simp; done) | (simp [*]; done), by repeat (first | exact Drawn0.refl _ | apply Drawn0.step)⟩

end Go.Proofs.YtmicghhmbojkfaaDoor.S
