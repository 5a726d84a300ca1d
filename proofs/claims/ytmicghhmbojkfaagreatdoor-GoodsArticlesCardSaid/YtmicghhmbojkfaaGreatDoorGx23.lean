-- PRINTED by print.py (a twelfth state) out of the translation. Not trusted: Lean checks it.
import Derived.Test.YtmicghhmbojkfaaGreatDoorGx0
import Derived.Test.YtmicghhmbojkfaaGreatDoorGx21
import Derived.Test.YtmicghhmbojkfaaGreatDoorGx22
namespace Go.Proofs.YtmicghhmbojkfaaGreatDoor.G
open Go.RowKit Go.Proofs.YtmicghhmbojkfaaGreatDoorW.PrintWords Go.Proofs.YtmicghhmbojkfaaGreatDoorW.PrintLast Go.Proofs.YtmicghhmbojkfaaGreatDoorW.PrintMore
attribute [local go_sem] max2_int min2_int max_two min_two max_three min_three max_four min_four   -- for this text's walks alone
set_option linter.unusedVariables false
set_option linter.unusedSimpArgs false

/-! ### barrowref02_Digit: function 45 -/
def barrowref02_Digit.j0 : Nat → ByteArray → Bool → Option (Int × Int)
 | 0, _, _ => none
 | k + 1, x0, x24 => if x24 = true then (some (0, 2)) else ((barrowref02_digits.f k x0).bind fun t162 => (if t162 = true then ((barrowref02_check.f k x0).bind fun t163 => (some (t163, 0))) else (some (0, 22))))
def barrowref02_Digit.f (k : Nat) (a0 : ByteArray) : Option (Int × Int) := if (a0.size : Int) = 0 then (some (0, 20)) else (if (a0.size : Int) > 13 then (some (0, 21)) else (if (a0.size : Int) = 7 then (barrowref02_Digit.j0 k a0 false) else (if (a0.size : Int) = 11 then (barrowref02_Digit.j0 k a0 false) else (if (a0.size : Int) = 12 then (barrowref02_Digit.j0 k a0 false) else (barrowref02_Digit.j0 k a0 ((a0.size : Int) != 13))))))
theorem barrowref02_Digit.mono_l : ∀ k, (∀ y0 y1, LeO (barrowref02_Digit.j0 k y0 y1) (barrowref02_Digit.j0 (k + 1) y0 y1))
 | 0 => fun _ _ r h => by simp [barrowref02_Digit.j0] at h
 | k + 1 => by
  have ih0 := barrowref02_Digit.mono_l k
  ·intro y0 y1
   unfold barrowref02_Digit.j0
   repeat' first
   | (with_reducible exact ih0 _ _)
   | (with_reducible exact barrowref02_check.mono _ _)
   | (with_reducible exact barrowref02_digits.mono _ _)
   | (with_reducible exact LeO.refl _)
   | (with_reducible exact LeO.none _)
   | (with_reducible refine LeO.ite ?_ ?_)
   | (with_reducible refine LeO.bind ?_ (fun _ => ?_))
   | exact ih0 _ _
   | exact barrowref02_check.mono _ _
   | exact barrowref02_digits.mono _ _
   | exact LeO.none _
   | refine LeO.ite ?_ ?_
   | refine LeO.bind ?_ (fun _ => ?_)
theorem barrowref02_Digit.mono : ∀ a0 k, LeO (barrowref02_Digit.f k a0) (barrowref02_Digit.f (k + 1) a0) := by
 intro a0 k
 have ih0 := barrowref02_Digit.mono_l k
 unfold barrowref02_Digit.f
 repeat' first
   | (with_reducible exact ih0 _ _)
   | (with_reducible exact barrowref02_check.mono _ _)
   | (with_reducible exact barrowref02_digits.mono _ _)
   | (with_reducible exact LeO.refl _)
   | (with_reducible exact LeO.none _)
   | (with_reducible refine LeO.ite ?_ ?_)
   | (with_reducible refine LeO.bind ?_ (fun _ => ?_))
   | exact ih0 _ _
   | exact barrowref02_check.mono _ _
   | exact barrowref02_digits.mono _ _
   | exact LeO.none _
   | refine LeO.ite ?_ ?_
   | refine LeO.bind ?_ (fun _ => ?_)
set_option maxHeartbeats 8000000 in
set_option maxRecDepth 100000 in
theorem barrowref02_Digit.calls (k : Nat) (a0 : ByteArray) (r1 : Int) (r2 : Int) (w : World) (h : barrowref02_Digit.f k a0 = some (r1, r2)) :
  Calls Tryz.prog 45 #[.string a0] w fun e w' => e = .returned (.tuple #[.int .i64 r1, .int .i64 r2]) ∧ Drawn0 w w' := by
 have H : (if (a0.size : Int) = 0 then (some (0, 20)) else (if (a0.size : Int) > 13 then (some (0, 21)) else (if (a0.size : Int) = 7 then (barrowref02_Digit.j0 k a0 false) else (if (a0.size : Int) = 11 then (barrowref02_Digit.j0 k a0 false) else (if (a0.size : Int) = 12 then (barrowref02_Digit.j0 k a0 false) else (barrowref02_Digit.j0 k a0 ((a0.size : Int) != 13))))))) = some (r1, r2) := h
 clear h
 by_cases c2 : (a0.size : Int) = 0
 ·rw [if_pos c2] at H
  have c2b0 : ((a0.size : Int) == 0) = true := beq_iff_eq.mpr c2
  have c2b1 : ((a0.size : Int) != 0) = false := bne_eq_false_iff_eq.mpr c2
  clear c2
  simp only [Option.some.injEq, Prod.mk.injEq] at H
  obtain ⟨rfl, rfl⟩ := H
  go_enter Tryz.func45, Tryz.ntmps45
  go_wp2
  go_ret2
  exact ⟨by first | rfl | (simp; done) | (simp [*]; done), by repeat (first | exact Drawn0.refl _ | apply Drawn0.step)⟩
 ·rw [if_neg c2] at H
  have c2b0 : ((a0.size : Int) == 0) = false := beq_eq_false_iff_ne.mpr c2
  have c2b1 : ((a0.size : Int) != 0) = true := bne_iff_ne.mpr c2
  by_cases c3 : (a0.size : Int) > 13
  ·rw [if_pos c3] at H
   have c3b0 : decide (13 < (a0.size : Int)) = true := decide_eq_true c3
   have c3b1 : decide (13 < a0.size) = true := decide_eq_true (by omega)
   clear c3
   simp only [Option.some.injEq, Prod.mk.injEq] at H
   obtain ⟨rfl, rfl⟩ := H
   go_enter Tryz.func45, Tryz.ntmps45
   go_wp2
   go_ret2
   exact ⟨by first | rfl | (simp; done) | (simp [*]; done), by repeat (first | exact Drawn0.refl _ | apply Drawn0.step)⟩
  ·rw [if_neg c3] at H
   have c3b0 : decide (13 < (a0.size : Int)) = false := decide_eq_false c3
   have c3b1 : decide (13 < a0.size) = false := decide_eq_false (by omega)
   clear c3
   have HC4 := Aside0.mk H
   clear H
   go_enter Tryz.func45, Tryz.ntmps45
   go_upto_region 6 with (fail)
   go_cut [24] (fun v24 wc => ∃ (kq : Nat) (x24_3 : Bool), v24 = .bool x24_3 ∧ Aside0 (barrowref02_Digit.j0 kq a0 x24_3 = some (r1, r2)) ∧ Aside0 (kq ≤ k) ∧ Drawn0 w wc)
   case first =>
    have H := HC4.out
    clear HC4
    by_cases c5 : (a0.size : Int) = 7
    ·rw [if_pos c5] at H
     have c5b0 : ((a0.size : Int) == 7) = true := beq_iff_eq.mpr c5
     have c5b1 : ((a0.size : Int) != 7) = false := bne_eq_false_iff_eq.mpr c5
     clear c5
     (first | rw [c5b0] | (simp only [i64_w, i32_w]; rw [c5b0]) | skip)
     have H' := Aside0.mk H
     clear H
     go_wp2
     go_meet
     case rel => exact ⟨_, (false), (by first | rfl | (simp; done) | (simp [*]; done)), H', ⟨by first | omega | exact Nat.le_refl _⟩, by repeat (first | exact Drawn0.refl _ | apply Drawn0.step)⟩
    ·rw [if_neg c5] at H
     have c5b0 : ((a0.size : Int) == 7) = false := beq_eq_false_iff_ne.mpr c5
     have c5b1 : ((a0.size : Int) != 7) = true := bne_iff_ne.mpr c5
     (first | rw [c5b0] | (simp only [i64_w, i32_w]; rw [c5b0]) | skip)
     by_cases c6 : (a0.size : Int) = 11
     ·rw [if_pos c6] at H
      have c6b0 : ((a0.size : Int) == 11) = true := beq_iff_eq.mpr c6
      have c6b1 : ((a0.size : Int) != 11) = false := bne_eq_false_iff_eq.mpr c6
      clear c6
      have H' := Aside0.mk H
      clear H
      go_wp2
      go_meet
      case rel => exact ⟨_, (false), (by first | rfl | (simp; done) | (simp [*]; done)), H', ⟨by first | omega | exact Nat.le_refl _⟩, by repeat (first | exact Drawn0.refl _ | apply Drawn0.step)⟩
     ·rw [if_neg c6] at H
      have c6b0 : ((a0.size : Int) == 11) = false := beq_eq_false_iff_ne.mpr c6
      have c6b1 : ((a0.size : Int) != 11) = true := bne_iff_ne.mpr c6
      by_cases c7 : (a0.size : Int) = 12
      ·rw [if_pos c7] at H
       have c7b0 : ((a0.size : Int) == 12) = true := beq_iff_eq.mpr c7
       have c7b1 : ((a0.size : Int) != 12) = false := bne_eq_false_iff_eq.mpr c7
       clear c7
       have H' := Aside0.mk H
       clear H
       go_wp2
       go_meet
       case rel => exact ⟨_, (false), (by first | rfl | (simp; done) | (simp [*]; done)), H', ⟨by first | omega | exact Nat.le_refl _⟩, by repeat (first | exact Drawn0.refl _ | apply Drawn0.step)⟩
      ·rw [if_neg c7] at H
       have c7b0 : ((a0.size : Int) == 12) = false := beq_eq_false_iff_ne.mpr c7
       have c7b1 : ((a0.size : Int) != 12) = true := bne_iff_ne.mpr c7
       have H' := Aside0.mk H
       clear H
       go_wp2
       go_meet
       case rel => exact ⟨_, (((a0.size : Int) != 13)), (by first | rfl | (simp; done) | (simp [*]; done)), H', ⟨by first | omega | exact Nat.le_refl _⟩, by repeat (first | exact Drawn0.refl _ | apply Drawn0.step)⟩
   case rest =>
    clear HC4
    try clear c2
    try clear c2b0
    try clear c2b1
    try clear p2
    try clear c3
    try clear c3b0
    try clear c3b1
    try clear c4
    try clear c5
    try clear c5b0
    try clear c5b1
    try clear c6
    try clear c6b0
    try clear c6b1
    try clear c7
    try clear c7b0
    try clear c7b1
    obtain ⟨kq, x24_3, rfl, HA, HJ3, ⟨mc3, rfl⟩⟩ := hcut
    cases kq with
    | zero => exact absurd HA.out (by simp [barrowref02_Digit.j0])
    | succ kj3 =>
     have H := HA.out
     clear HA
     simp only [barrowref02_Digit.j0] at H
     by_cases c8 : x24_3 = true
     ·subst c8
      have H1 : (some (0, 2)) = some (r1, r2) := by rw [if_pos rfl] at H; exact H
      clear H
      have H := H1
      clear H1
      simp only [Option.some.injEq, Prod.mk.injEq] at H
      obtain ⟨rfl, rfl⟩ := H
      go_wp2
      go_ret2
      exact ⟨by first | rfl | (simp; done) | (simp [*]; done), by repeat (first | exact Drawn0.refl _ | apply Drawn0.step)⟩
     ·replace c8 := Bool.eq_false_iff.mpr c8
      subst c8
      have H1 : ((barrowref02_digits.f kj3 a0).bind fun t162 => (if t162 = true then ((barrowref02_check.f kj3 a0).bind fun t163 => (some (t163, 0))) else (some (0, 22)))) = some (r1, r2) := by rw [if_neg (show ¬ (false = true) by decide)] at H; exact H
      clear H
      have H := H1
      clear H1
      replace H := Option.bind_eq_some_iff.mp H
      obtain ⟨t162, A90, H⟩ := H
      replace H : (if t162 = true then ((barrowref02_check.f kj3 a0).bind fun t163 => (some (t163, 0))) else (some (0, 22))) = some (r1, r2) := H
      have A9 := Aside0.mk A90
      clear A90
      by_cases c10 : t162 = true
      ·subst c10
       have H1 : ((barrowref02_check.f kj3 a0).bind fun t163 => (some (t163, 0))) = some (r1, r2) := by rw [if_pos rfl] at H; exact H
       clear H
       have H := H1
       clear H1
       replace H := Option.bind_eq_some_iff.mp H
       obtain ⟨t163, A110, H⟩ := H
       replace H : (some (t163, 0)) = some (r1, r2) := H
       have A11 := Aside0.mk A110
       clear A110
       simp only [Option.some.injEq, Prod.mk.injEq] at H
       obtain ⟨rfl, rfl⟩ := H
       go_wp2_with (first | ((with_reducible refine gate_callee (f := 76) rfl ?_); refine goesL_ (some 26) rfl rfl Tryz.func76 (by kernel_rfl) rfl #[.string a0] rfl (by (try simp only [List.map_toArray, List.map_cons, List.map_nil]); first | done | rfl | (simp only [List.length_drop, List.length_take]; rfl)) ?_; (with_reducible refine (barrowref02_digits.calls kj3 a0 true _ A9.out).mono ?_); rintro e w' ⟨rfl, ⟨nd, rfl⟩⟩; refine ⟨_, rfl, ?_⟩) | ((with_reducible refine gate_callee (f := 77) rfl ?_); refine goesL_ (some 29) rfl rfl Tryz.func77 (by kernel_rfl) rfl #[.string a0] rfl (by (try simp only [List.map_toArray, List.map_cons, List.map_nil]); first | done | rfl | (simp only [List.length_drop, List.length_take]; rfl)) ?_; (with_reducible refine (barrowref02_check.calls kj3 a0 t163 _ A11.out).mono ?_); rintro e w' ⟨rfl, ⟨nd, rfl⟩⟩; refine ⟨_, rfl, ?_⟩))
       go_ret2
       exact ⟨by first | rfl | (simp; done) | (simp [*]; done), by repeat (first | exact Drawn0.refl _ | apply Drawn0.step)⟩
      ·replace c10 := Bool.eq_false_iff.mpr c10
       subst c10
       have H1 : (some (0, 22)) = some (r1, r2) := by rw [if_neg (show ¬ (false = true) by decide)] at H; exact H
       clear H
       have H := H1
       clear H1
       simp only [Option.some.injEq, Prod.mk.injEq] at H
       obtain ⟨rfl, rfl⟩ := H
       go_wp2_with (first | ((with_reducible refine gate_callee (f := 76) rfl ?_); refine goesL_ (some 26) rfl rfl Tryz.func76 (by kernel_rfl) rfl #[.string a0] rfl (by (try simp only [List.map_toArray, List.map_cons, List.map_nil]); first | done | rfl | (simp only [List.length_drop, List.length_take]; rfl)) ?_; (with_reducible refine (barrowref02_digits.calls kj3 a0 false _ A9.out).mono ?_); rintro e w' ⟨rfl, ⟨nd, rfl⟩⟩; refine ⟨_, rfl, ?_⟩))
       go_ret2
       exact ⟨by first | rfl | (simp; done) | (simp [*]; done), by repeat (first | exact Drawn0.refl _ | apply Drawn0.step)⟩

end Go.Proofs.YtmicghhmbojkfaaGreatDoor.G
