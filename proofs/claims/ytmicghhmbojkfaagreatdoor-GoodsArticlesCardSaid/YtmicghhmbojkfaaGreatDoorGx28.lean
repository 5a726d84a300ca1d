-- PRINTED by print.py (a twelfth state) out of the translation. Not trusted: Lean checks it.
import Derived.Test.YtmicghhmbojkfaaGreatDoorGx0
import Derived.Test.YtmicghhmbojkfaaGreatDoorGx21
import Derived.Test.YtmicghhmbojkfaaGreatDoorGx22
namespace Go.Proofs.YtmicghhmbojkfaaGreatDoor.G
open Go.RowKit Go.Proofs.YtmicghhmbojkfaaGreatDoorW.PrintWords Go.Proofs.YtmicghhmbojkfaaGreatDoorW.PrintLast Go.Proofs.YtmicghhmbojkfaaGreatDoorW.PrintMore
attribute [local go_sem] max2_int min2_int max_two min_two max_three min_three max_four min_four   -- for this text's walks alone
set_option linter.unusedVariables false
set_option linter.unusedSimpArgs false

/-! ### barrowref02_Gtin: function 47 -/
def barrowref02_Gtin.j0 : Nat → ByteArray → Int → Bool → Option (Int × Int)
 | 0, _, _, _ => none
 | k + 1, x0, x4, x24 => if x24 = true then (some (0, 2)) else ((barrowref02_digits.f k x0).bind fun t174 => (if t174 = true then (if 0 ≤ (wrap64 (x4 - 1)) then (if (wrap64 (x4 - 1)) ≤ (x0.size : Int) then ((barrowref02_check.f k (x0.extract 0 ((wrap64 (x4 - 1)) : Int).toNat)).bind fun t175 => (if (wrap64 (x4 - 1)) < (x0.size : Int) then (if t175 = (((bt x0 (wrap64 (x4 - 1))) - 48) % 256) then (some (x4, 0)) else (some (0, 23))) else (none))) else (none)) else (none)) else (some (0, 22))))
def barrowref02_Gtin.f (k : Nat) (a0 : ByteArray) : Option (Int × Int) := if (a0.size : Int) = 0 then (some (0, 20)) else (if (a0.size : Int) > 14 then (some (0, 21)) else (if (a0.size : Int) = 8 then (barrowref02_Gtin.j0 k a0 (a0.size : Int) false) else (if (a0.size : Int) = 12 then (barrowref02_Gtin.j0 k a0 (a0.size : Int) false) else (if (a0.size : Int) = 13 then (barrowref02_Gtin.j0 k a0 (a0.size : Int) false) else (barrowref02_Gtin.j0 k a0 (a0.size : Int) ((a0.size : Int) != 14))))))
theorem barrowref02_Gtin.mono_l : ∀ k, (∀ y0 y1 y2, LeO (barrowref02_Gtin.j0 k y0 y1 y2) (barrowref02_Gtin.j0 (k + 1) y0 y1 y2))
 | 0 => fun _ _ _ r h => by simp [barrowref02_Gtin.j0] at h
 | k + 1 => by
  have ih0 := barrowref02_Gtin.mono_l k
  ·intro y0 y1 y2
   unfold barrowref02_Gtin.j0
   repeat' first
   | (with_reducible exact ih0 _ _ _)
   | (with_reducible exact barrowref02_check.mono _ _)
   | (with_reducible exact barrowref02_digits.mono _ _)
   | (with_reducible exact LeO.refl _)
   | (with_reducible exact LeO.none _)
   | (with_reducible refine LeO.ite ?_ ?_)
   | (with_reducible refine LeO.bind ?_ (fun _ => ?_))
   | exact ih0 _ _ _
   | exact barrowref02_check.mono _ _
   | exact barrowref02_digits.mono _ _
   | exact LeO.none _
   | refine LeO.ite ?_ ?_
   | refine LeO.bind ?_ (fun _ => ?_)
theorem barrowref02_Gtin.mono : ∀ a0 k, LeO (barrowref02_Gtin.f k a0) (barrowref02_Gtin.f (k + 1) a0) := by
 intro a0 k
 have ih0 := barrowref02_Gtin.mono_l k
 unfold barrowref02_Gtin.f
 repeat' first
   | (with_reducible exact ih0 _ _ _)
   | (with_reducible exact barrowref02_check.mono _ _)
   | (with_reducible exact barrowref02_digits.mono _ _)
   | (with_reducible exact LeO.refl _)
   | (with_reducible exact LeO.none _)
   | (with_reducible refine LeO.ite ?_ ?_)
   | (with_reducible refine LeO.bind ?_ (fun _ => ?_))
   | exact ih0 _ _ _
   | exact barrowref02_check.mono _ _
   | exact barrowref02_digits.mono _ _
   | exact LeO.none _
   | refine LeO.ite ?_ ?_
   | refine LeO.bind ?_ (fun _ => ?_)
set_option maxHeartbeats 8000000 in
set_option maxRecDepth 100000 in
theorem barrowref02_Gtin.calls (k : Nat) (a0 : ByteArray) (r1 : Int) (r2 : Int) (w : World) (h : barrowref02_Gtin.f k a0 = some (r1, r2)) :
  Calls Tryz.prog 47 #[.string a0] w fun e w' => e = .returned (.tuple #[.int .i64 r1, .int .i64 r2]) ∧ Drawn0 w w' := by
 have H : (if (a0.size : Int) = 0 then (some (0, 20)) else (if (a0.size : Int) > 14 then (some (0, 21)) else (if (a0.size : Int) = 8 then (barrowref02_Gtin.j0 k a0 (a0.size : Int) false) else (if (a0.size : Int) = 12 then (barrowref02_Gtin.j0 k a0 (a0.size : Int) false) else (if (a0.size : Int) = 13 then (barrowref02_Gtin.j0 k a0 (a0.size : Int) false) else (barrowref02_Gtin.j0 k a0 (a0.size : Int) ((a0.size : Int) != 14))))))) = some (r1, r2) := h
 clear h
 by_cases c2 : (a0.size : Int) = 0
 ·rw [if_pos c2] at H
  have c2b0 : ((a0.size : Int) == 0) = true := beq_iff_eq.mpr c2
  have c2b1 : ((a0.size : Int) != 0) = false := bne_eq_false_iff_eq.mpr c2
  clear c2
  simp only [Option.some.injEq, Prod.mk.injEq] at H
  obtain ⟨rfl, rfl⟩ := H
  go_enter Tryz.func47, Tryz.ntmps47
  go_wp2
  repeat (go_quiet (fail); try go_wp2)
  go_ret2
  exact ⟨by first | rfl | (simp; done) | (simp [*]; done), by repeat (first | exact Drawn0.refl _ | apply Drawn0.step)⟩
 ·rw [if_neg c2] at H
  have c2b0 : ((a0.size : Int) == 0) = false := beq_eq_false_iff_ne.mpr c2
  have c2b1 : ((a0.size : Int) != 0) = true := bne_iff_ne.mpr c2
  by_cases c3 : (a0.size : Int) > 14
  ·rw [if_pos c3] at H
   have c3b0 : decide (14 < (a0.size : Int)) = true := decide_eq_true c3
   have c3b1 : decide (14 < a0.size) = true := decide_eq_true (by omega)
   clear c3
   simp only [Option.some.injEq, Prod.mk.injEq] at H
   obtain ⟨rfl, rfl⟩ := H
   go_enter Tryz.func47, Tryz.ntmps47
   go_wp2
   repeat (go_quiet (fail); try go_wp2)
   go_ret2
   exact ⟨by first | rfl | (simp; done) | (simp [*]; done), by repeat (first | exact Drawn0.refl _ | apply Drawn0.step)⟩
  ·rw [if_neg c3] at H
   have c3b0 : decide (14 < (a0.size : Int)) = false := decide_eq_false c3
   have c3b1 : decide (14 < a0.size) = false := decide_eq_false (by omega)
   clear c3
   have HC4 := Aside0.mk H
   clear H
   go_enter Tryz.func47, Tryz.ntmps47
   go_upto_region 6 with (fail)
   repeat (go_quiet (fail); go_upto_region 6 with (fail))
   go_cut [24] (fun v24 wc => ∃ (kq : Nat) (x24_3 : Bool), v24 = .bool x24_3 ∧ Aside0 (barrowref02_Gtin.j0 kq a0 (a0.size : Int) x24_3 = some (r1, r2)) ∧ Aside0 (kq ≤ k) ∧ Drawn0 w wc)
   case first =>
    have H := HC4.out
    clear HC4
    by_cases c5 : (a0.size : Int) = 8
    ·rw [if_pos c5] at H
     have c5b0 : ((a0.size : Int) == 8) = true := beq_iff_eq.mpr c5
     have c5b1 : ((a0.size : Int) != 8) = false := bne_eq_false_iff_eq.mpr c5
     clear c5
     (first | rw [c5b0] | (simp only [i64_w, i32_w]; rw [c5b0]) | skip)
     have H' := Aside0.mk H
     clear H
     go_wp2
     repeat (go_quiet (fail); try go_wp2)
     go_meet
     case rel => exact ⟨_, (false), (by first | rfl | (simp; done) | (simp [*]; done)), H', ⟨by first | omega | exact Nat.le_refl _⟩, by repeat (first | exact Drawn0.refl _ | apply Drawn0.step)⟩
    ·rw [if_neg c5] at H
     have c5b0 : ((a0.size : Int) == 8) = false := beq_eq_false_iff_ne.mpr c5
     have c5b1 : ((a0.size : Int) != 8) = true := bne_iff_ne.mpr c5
     (first | rw [c5b0] | (simp only [i64_w, i32_w]; rw [c5b0]) | skip)
     by_cases c6 : (a0.size : Int) = 12
     ·rw [if_pos c6] at H
      have c6b0 : ((a0.size : Int) == 12) = true := beq_iff_eq.mpr c6
      have c6b1 : ((a0.size : Int) != 12) = false := bne_eq_false_iff_eq.mpr c6
      clear c6
      have H' := Aside0.mk H
      clear H
      go_wp2
      repeat (go_quiet (fail); try go_wp2)
      go_meet
      case rel => exact ⟨_, (false), (by first | rfl | (simp; done) | (simp [*]; done)), H', ⟨by first | omega | exact Nat.le_refl _⟩, by repeat (first | exact Drawn0.refl _ | apply Drawn0.step)⟩
     ·rw [if_neg c6] at H
      have c6b0 : ((a0.size : Int) == 12) = false := beq_eq_false_iff_ne.mpr c6
      have c6b1 : ((a0.size : Int) != 12) = true := bne_iff_ne.mpr c6
      by_cases c7 : (a0.size : Int) = 13
      ·rw [if_pos c7] at H
       have c7b0 : ((a0.size : Int) == 13) = true := beq_iff_eq.mpr c7
       have c7b1 : ((a0.size : Int) != 13) = false := bne_eq_false_iff_eq.mpr c7
       clear c7
       have H' := Aside0.mk H
       clear H
       go_wp2
       repeat (go_quiet (fail); try go_wp2)
       go_meet
       case rel => exact ⟨_, (false), (by first | rfl | (simp; done) | (simp [*]; done)), H', ⟨by first | omega | exact Nat.le_refl _⟩, by repeat (first | exact Drawn0.refl _ | apply Drawn0.step)⟩
      ·rw [if_neg c7] at H
       have c7b0 : ((a0.size : Int) == 13) = false := beq_eq_false_iff_ne.mpr c7
       have c7b1 : ((a0.size : Int) != 13) = true := bne_iff_ne.mpr c7
       have H' := Aside0.mk H
       clear H
       go_wp2
       repeat (go_quiet (fail); try go_wp2)
       go_meet
       case rel => exact ⟨_, (((a0.size : Int) != 14)), (by first | rfl | (simp; done) | (simp [*]; done)), H', ⟨by first | omega | exact Nat.le_refl _⟩, by repeat (first | exact Drawn0.refl _ | apply Drawn0.step)⟩
   case rest =>
    clear HC4
    try clear c2
    try clear c2b0
    try clear c2b1
    try clear p2
    try clear c3
    try clear c3b0
    try clear c3b1
    try clear c4
    try clear c5
    try clear c5b0
    try clear c5b1
    try clear c6
    try clear c6b0
    try clear c6b1
    try clear c7
    try clear c7b0
    try clear c7b1
    obtain ⟨kq, x24_3, rfl, HA, HJ3, ⟨mc3, rfl⟩⟩ := hcut
    cases kq with
    | zero => exact absurd HA.out (by simp [barrowref02_Gtin.j0])
    | succ kj3 =>
     have H := HA.out
     clear HA
     simp only [barrowref02_Gtin.j0] at H
     by_cases c8 : x24_3 = true
     ·subst c8
      have H1 : (some (0, 2)) = some (r1, r2) := by rw [if_pos rfl] at H; exact H
      clear H
      have H := H1
      clear H1
      simp only [Option.some.injEq, Prod.mk.injEq] at H
      obtain ⟨rfl, rfl⟩ := H
      go_wp2
      repeat (go_quiet (fail); try go_wp2)
      go_ret2
      exact ⟨by first | rfl | (simp; done) | (simp [*]; done), by repeat (first | exact Drawn0.refl _ | apply Drawn0.step)⟩
     ·replace c8 := Bool.eq_false_iff.mpr c8
      subst c8
      have H1 : ((barrowref02_digits.f kj3 a0).bind fun t174 => (if t174 = true then (if 0 ≤ (wrap64 ((a0.size : Int) - 1)) then (if (wrap64 ((a0.size : Int) - 1)) ≤ (a0.size : Int) then ((barrowref02_check.f kj3 (a0.extract 0 ((wrap64 ((a0.size : Int) - 1)) : Int).toNat)).bind fun t175 => (if (wrap64 ((a0.size : Int) - 1)) < (a0.size : Int) then (if t175 = (((bt a0 (wrap64 ((a0.size : Int) - 1))) - 48) % 256) then (some ((a0.size : Int), 0)) else (some (0, 23))) else (none))) else (none)) else (none)) else (some (0, 22)))) = some (r1, r2) := by rw [if_neg (show ¬ (false = true) by decide)] at H; exact H
      clear H
      have H := H1
      clear H1
      replace H := Option.bind_eq_some_iff.mp H
      obtain ⟨t174, A90, H⟩ := H
      replace H : (if t174 = true then (if 0 ≤ (wrap64 ((a0.size : Int) - 1)) then (if (wrap64 ((a0.size : Int) - 1)) ≤ (a0.size : Int) then ((barrowref02_check.f kj3 (a0.extract 0 ((wrap64 ((a0.size : Int) - 1)) : Int).toNat)).bind fun t175 => (if (wrap64 ((a0.size : Int) - 1)) < (a0.size : Int) then (if t175 = (((bt a0 (wrap64 ((a0.size : Int) - 1))) - 48) % 256) then (some ((a0.size : Int), 0)) else (some (0, 23))) else (none))) else (none)) else (none)) else (some (0, 22))) = some (r1, r2) := H
      have A9 := Aside0.mk A90
      clear A90
      by_cases c10 : t174 = true
      ·subst c10
       have H1 : (if 0 ≤ (wrap64 ((a0.size : Int) - 1)) then (if (wrap64 ((a0.size : Int) - 1)) ≤ (a0.size : Int) then ((barrowref02_check.f kj3 (a0.extract 0 ((wrap64 ((a0.size : Int) - 1)) : Int).toNat)).bind fun t175 => (if (wrap64 ((a0.size : Int) - 1)) < (a0.size : Int) then (if t175 = (((bt a0 (wrap64 ((a0.size : Int) - 1))) - 48) % 256) then (some ((a0.size : Int), 0)) else (some (0, 23))) else (none))) else (none)) else (none)) = some (r1, r2) := by rw [if_pos rfl] at H; exact H
       clear H
       have H := H1
       clear H1
       obtain ⟨ji11, hji11⟩ : ∃ j_ : Int, (wrap64 ((a0.size : Int) - 1)) = j_ := ⟨_, rfl⟩
       replace H : (if 0 ≤ (ji11) then (if (ji11) ≤ (a0.size : Int) then ((barrowref02_check.f kj3 (a0.extract 0 ((ji11) : Int).toNat)).bind fun t175 => (if (ji11) < (a0.size : Int) then (if t175 = (((bt a0 (ji11)) - 48) % 256) then (some ((a0.size : Int), 0)) else (some (0, 23))) else (none))) else (none)) else (none)) = some (r1, r2) := by first | (rw [hji11] at H; exact H) | (simp only [hji11] at H ⊢; exact H)
       (try rw [hji11] at A9)
       have hji11w : (IntKind.i64.wrap ((a0.size : Int) - 1)) = ji11 := (i64_w _).trans hji11
       by_cases c12 : 0 ≤ (ji11)
       ·rw [if_pos c12] at H
        have c12b0 := eq_true c12
        have c12b1 : decide (0 ≤ (ji11)) = true := decide_eq_true c12
        clear c12
        by_cases c13 : (ji11) ≤ (a0.size : Int)
        ·rw [if_pos c13] at H
         have c13b0 := eq_true c13
         have c13b1 : decide ((ji11) ≤ (a0.size : Int)) = true := decide_eq_true c13
         clear c13
         replace H := Option.bind_eq_some_iff.mp H
         obtain ⟨t175, A140, H⟩ := H
         replace H : (if (ji11) < (a0.size : Int) then (if t175 = (((bt a0 (ji11)) - 48) % 256) then (some ((a0.size : Int), 0)) else (some (0, 23))) else (none)) = some (r1, r2) := H
         have A14 := Aside0.mk A140
         clear A140
         by_cases c15 : (ji11) < (a0.size : Int)
         ·rw [if_pos c15] at H
          have c15b0 : decide ((ji11) < (a0.size : Int)) = true := decide_eq_true c15
          clear c15
          by_cases c17 : t175 = (((bt a0 (ji11)) - 48) % 256)
          ·rw [if_pos c17] at H
           have c17b0 : (t175 == (((bt a0 (ji11)) - 48) % 256)) = true := beq_iff_eq.mpr c17
           have c17w : ∀ y : Int, IntKind.i64.wrap (IntKind.u8.wrap y) = y % 256 := fun y => by rw [IntKind.wrap_i64]; show ((y % 256 + _) % _ - _ : Int) = _; omega
           have c17b1 : (t175 != (((bt a0 (ji11)) - 48) % 256)) = false := bne_eq_false_iff_eq.mpr c17
           clear c17
           simp only [Option.some.injEq, Prod.mk.injEq] at H
           obtain ⟨rfl, rfl⟩ := H
           go_wp2_with (first | (go_at_call 76; (with_reducible refine (barrowref02_digits.calls kj3 a0 true _ A9.out).mono ?_); rintro e w' ⟨rfl, ⟨nd, rfl⟩⟩; (try first | exact ⟨rfl, _, World.drewN_drewN _ _ _⟩ | exact ⟨rfl, _, Eq.trans (World.drewN_drewN _ _ _) (congrArg (World.drewN _) (Nat.add_assoc _ _ _))⟩)) | (go_at_call 77; (with_reducible refine (barrowref02_check.calls kj3 (a0.extract 0 ((ji11) : Int).toNat) t175 _ A14.out).mono ?_); rintro e w' ⟨rfl, ⟨nd, rfl⟩⟩; (try first | exact ⟨rfl, _, World.drewN_drewN _ _ _⟩ | exact ⟨rfl, _, Eq.trans (World.drewN_drewN _ _ _) (congrArg (World.drewN _) (Nat.add_assoc _ _ _))⟩); have p16 : 0 ≤ ((ji11) : Int) := of_decide_eq_true (by first | (with_reducible assumption) | assumption); have q16 : (ji11) < (a0.size : Int) := of_decide_eq_true (by first | (with_reducible assumption) | assumption); have hx16 := bt_at a0 (ji11); replace p16 := eq_true p16; replace q16 := eq_true q16))
           repeat (go_quiet (first | (go_at_call 76; (with_reducible refine (barrowref02_digits.calls kj3 a0 true _ A9.out).mono ?_); rintro e w' ⟨rfl, ⟨nd, rfl⟩⟩; (try first | exact ⟨rfl, _, World.drewN_drewN _ _ _⟩ | exact ⟨rfl, _, Eq.trans (World.drewN_drewN _ _ _) (congrArg (World.drewN _) (Nat.add_assoc _ _ _))⟩)) | (go_at_call 77; (with_reducible refine (barrowref02_check.calls kj3 (a0.extract 0 ((ji11) : Int).toNat) t175 _ A14.out).mono ?_); rintro e w' ⟨rfl, ⟨nd, rfl⟩⟩; (try first | exact ⟨rfl, _, World.drewN_drewN _ _ _⟩ | exact ⟨rfl, _, Eq.trans (World.drewN_drewN _ _ _) (congrArg (World.drewN _) (Nat.add_assoc _ _ _))⟩); have p16 : 0 ≤ ((ji11) : Int) := of_decide_eq_true (by first | (with_reducible assumption) | assumption); have q16 : (ji11) < (a0.size : Int) := of_decide_eq_true (by first | (with_reducible assumption) | assumption); have hx16 := bt_at a0 (ji11); replace p16 := eq_true p16; replace q16 := eq_true q16)); try go_wp2_with (first | (go_at_call 76; (with_reducible refine (barrowref02_digits.calls kj3 a0 true _ A9.out).mono ?_); rintro e w' ⟨rfl, ⟨nd, rfl⟩⟩; (try first | exact ⟨rfl, _, World.drewN_drewN _ _ _⟩ | exact ⟨rfl, _, Eq.trans (World.drewN_drewN _ _ _) (congrArg (World.drewN _) (Nat.add_assoc _ _ _))⟩)) | (go_at_call 77; (with_reducible refine (barrowref02_check.calls kj3 (a0.extract 0 ((ji11) : Int).toNat) t175 _ A14.out).mono ?_); rintro e w' ⟨rfl, ⟨nd, rfl⟩⟩; (try first | exact ⟨rfl, _, World.drewN_drewN _ _ _⟩ | exact ⟨rfl, _, Eq.trans (World.drewN_drewN _ _ _) (congrArg (World.drewN _) (Nat.add_assoc _ _ _))⟩); have p16 : 0 ≤ ((ji11) : Int) := of_decide_eq_true (by first | (with_reducible assumption) | assumption); have q16 : (ji11) < (a0.size : Int) := of_decide_eq_true (by first | (with_reducible assumption) | assumption); have hx16 := bt_at a0 (ji11); replace p16 := eq_true p16; replace q16 := eq_true q16)))
           go_ret2
           exact ⟨by first | rfl | (simp; done) | (simp only [← hji11] <;> (first | rfl | simp)) | (simp [*]; done), by repeat (first | exact Drawn0.refl _ | apply Drawn0.step)⟩
          ·rw [if_neg c17] at H
           have c17b0 : (t175 == (((bt a0 (ji11)) - 48) % 256)) = false := beq_eq_false_iff_ne.mpr c17
           have c17w : ∀ y : Int, IntKind.i64.wrap (IntKind.u8.wrap y) = y % 256 := fun y => by rw [IntKind.wrap_i64]; show ((y % 256 + _) % _ - _ : Int) = _; omega
           have c17b1 : (t175 != (((bt a0 (ji11)) - 48) % 256)) = true := bne_iff_ne.mpr c17
           simp only [Option.some.injEq, Prod.mk.injEq] at H
           obtain ⟨rfl, rfl⟩ := H
           go_wp2_with (first | (go_at_call 76; (with_reducible refine (barrowref02_digits.calls kj3 a0 true _ A9.out).mono ?_); rintro e w' ⟨rfl, ⟨nd, rfl⟩⟩; (try first | exact ⟨rfl, _, World.drewN_drewN _ _ _⟩ | exact ⟨rfl, _, Eq.trans (World.drewN_drewN _ _ _) (congrArg (World.drewN _) (Nat.add_assoc _ _ _))⟩)) | (go_at_call 77; (with_reducible refine (barrowref02_check.calls kj3 (a0.extract 0 ((ji11) : Int).toNat) t175 _ A14.out).mono ?_); rintro e w' ⟨rfl, ⟨nd, rfl⟩⟩; (try first | exact ⟨rfl, _, World.drewN_drewN _ _ _⟩ | exact ⟨rfl, _, Eq.trans (World.drewN_drewN _ _ _) (congrArg (World.drewN _) (Nat.add_assoc _ _ _))⟩); have p16 : 0 ≤ ((ji11) : Int) := of_decide_eq_true (by first | (with_reducible assumption) | assumption); have q16 : (ji11) < (a0.size : Int) := of_decide_eq_true (by first | (with_reducible assumption) | assumption); have hx16 := bt_at a0 (ji11); replace p16 := eq_true p16; replace q16 := eq_true q16))
           repeat (go_quiet (first | (go_at_call 76; (with_reducible refine (barrowref02_digits.calls kj3 a0 true _ A9.out).mono ?_); rintro e w' ⟨rfl, ⟨nd, rfl⟩⟩; (try first | exact ⟨rfl, _, World.drewN_drewN _ _ _⟩ | exact ⟨rfl, _, Eq.trans (World.drewN_drewN _ _ _) (congrArg (World.drewN _) (Nat.add_assoc _ _ _))⟩)) | (go_at_call 77; (with_reducible refine (barrowref02_check.calls kj3 (a0.extract 0 ((ji11) : Int).toNat) t175 _ A14.out).mono ?_); rintro e w' ⟨rfl, ⟨nd, rfl⟩⟩; (try first | exact ⟨rfl, _, World.drewN_drewN _ _ _⟩ | exact ⟨rfl, _, Eq.trans (World.drewN_drewN _ _ _) (congrArg (World.drewN _) (Nat.add_assoc _ _ _))⟩); have p16 : 0 ≤ ((ji11) : Int) := of_decide_eq_true (by first | (with_reducible assumption) | assumption); have q16 : (ji11) < (a0.size : Int) := of_decide_eq_true (by first | (with_reducible assumption) | assumption); have hx16 := bt_at a0 (ji11); replace p16 := eq_true p16; replace q16 := eq_true q16)); try go_wp2_with (first | (go_at_call 76; (with_reducible refine (barrowref02_digits.calls kj3 a0 true _ A9.out).mono ?_); rintro e w' ⟨rfl, ⟨nd, rfl⟩⟩; (try first | exact ⟨rfl, _, World.drewN_drewN _ _ _⟩ | exact ⟨rfl, _, Eq.trans (World.drewN_drewN _ _ _) (congrArg (World.drewN _) (Nat.add_assoc _ _ _))⟩)) | (go_at_call 77; (with_reducible refine (barrowref02_check.calls kj3 (a0.extract 0 ((ji11) : Int).toNat) t175 _ A14.out).mono ?_); rintro e w' ⟨rfl, ⟨nd, rfl⟩⟩; (try first | exact ⟨rfl, _, World.drewN_drewN _ _ _⟩ | exact ⟨rfl, _, Eq.trans (World.drewN_drewN _ _ _) (congrArg (World.drewN _) (Nat.add_assoc _ _ _))⟩); have p16 : 0 ≤ ((ji11) : Int) := of_decide_eq_true (by first | (with_reducible assumption) | assumption); have q16 : (ji11) < (a0.size : Int) := of_decide_eq_true (by first | (with_reducible assumption) | assumption); have hx16 := bt_at a0 (ji11); replace p16 := eq_true p16; replace q16 := eq_true q16)))
           go_ret2
           exact ⟨by first | rfl | (simp; done) | (simp only [← hji11] <;> (first | rfl | simp)) | (simp [*]; done), by repeat (first | exact Drawn0.refl _ | apply Drawn0.step)⟩
         ·rw [if_neg c15] at H
          exact absurd H (by simp)
        ·rw [if_neg c13] at H
         exact absurd H (by simp)
       ·rw [if_neg c12] at H
        exact absurd H (by simp)
      ·replace c10 := Bool.eq_false_iff.mpr c10
       subst c10
       have H1 : (some (0, 22)) = some (r1, r2) := by rw [if_neg (show ¬ (false = true) by decide)] at H; exact H
       clear H
       have H := H1
       clear H1
       simp only [Option.some.injEq, Prod.mk.injEq] at H
       obtain ⟨rfl, rfl⟩ := H
       go_wp2_with (first | (go_at_call 76; (with_reducible refine (barrowref02_digits.calls kj3 a0 false _ A9.out).mono ?_); rintro e w' ⟨rfl, ⟨nd, rfl⟩⟩; (try first | exact ⟨rfl, _, World.drewN_drewN _ _ _⟩ | exact ⟨rfl, _, Eq.trans (World.drewN_drewN _ _ _) (congrArg (World.drewN _) (Nat.add_assoc _ _ _))⟩)))
       repeat (go_quiet (first | (go_at_call 76; (with_reducible refine (barrowref02_digits.calls kj3 a0 false _ A9.out).mono ?_); rintro e w' ⟨rfl, ⟨nd, rfl⟩⟩; (try first | exact ⟨rfl, _, World.drewN_drewN _ _ _⟩ | exact ⟨rfl, _, Eq.trans (World.drewN_drewN _ _ _) (congrArg (World.drewN _) (Nat.add_assoc _ _ _))⟩))); try go_wp2_with (first | (go_at_call 76; (with_reducible refine (barrowref02_digits.calls kj3 a0 false _ A9.out).mono ?_); rintro e w' ⟨rfl, ⟨nd, rfl⟩⟩; (try first | exact ⟨rfl, _, World.drewN_drewN _ _ _⟩ | exact ⟨rfl, _, Eq.trans (World.drewN_drewN _ _ _) (congrArg (World.drewN _) (Nat.add_assoc _ _ _))⟩))))
       go_ret2
       exact ⟨by first | rfl | (simp; done) | (simp [*]; done), by repeat (first | exact Drawn0.refl _ | apply Drawn0.step)⟩

end Go.Proofs.YtmicghhmbojkfaaGreatDoor.G
