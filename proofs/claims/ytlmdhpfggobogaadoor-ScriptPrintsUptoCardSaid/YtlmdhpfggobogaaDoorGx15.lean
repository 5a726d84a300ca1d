-- PRINTED by print.py (a twelfth state) out of the translation. Not trusted: Lean checks it.
import Derived.Test.YtlmdhpfggobogaaDoorGx0
import Derived.Test.YtlmdhpfggobogaaDoorGx12
import Derived.Test.YtlmdhpfggobogaaDoorGx13
import Derived.Test.YtlmdhpfggobogaaDoorGx14
namespace Go.Proofs.YtlmdhpfggobogaaDoor.G
open Go.RowKit Go.Proofs.YtlmdhpfggobogaaDoorW.PrintWords Go.Proofs.YtlmdhpfggobogaaDoorW.PrintLast Go.Proofs.YtlmdhpfggobogaaDoorW.PrintMore
attribute [local go_sem] max2_int min2_int max_two min_two max_three min_three max_four min_four   -- for this text's walks alone
set_option linter.unusedVariables false
set_option linter.unusedSimpArgs false

/-! ### barrowref02_stands: function 100 -/
def barrowref02_stands.j0 : Nat → ByteArray → Int → Int → Bool → Option (Bool)
 | 0, _, _, _, _ => none
 | k + 1, x0, x1, x5, x14 => if x14 = true then (some true) else ((barrowref02_mark.f x5).bind fun t163 => (if t163 = true then (if x1 = 0 then (some false) else (if x1 = (wrap64 ((x0.size : Int) - 1)) then (some false) else (if 0 ≤ (wrap64 (x1 - 1)) then (if (wrap64 (x1 - 1)) < (x0.size : Int) then ((barrowref02_mark.f (bt x0 (wrap64 (x1 - 1)))).bind fun t164 => (some (!t164))) else (none)) else (none)))) else (some false)))
def barrowref02_stands.f (k : Nat) (a0 : ByteArray) (a1 : Int) : Option (Bool) := if 0 ≤ a1 then (if a1 < (a0.size : Int) then ((barrowref02_letter.f (bt a0 a1)).bind fun t161 => (if t161 = true then (barrowref02_stands.j0 k a0 a1 (bt a0 a1) true) else ((barrowref02_digit.f (bt a0 a1)).bind fun t162 => (barrowref02_stands.j0 k a0 a1 (bt a0 a1) t162)))) else (none)) else (none)
theorem barrowref02_stands.mono_l : ∀ k, (∀ y0 y1 y2 y3, LeO (barrowref02_stands.j0 k y0 y1 y2 y3) (barrowref02_stands.j0 (k + 1) y0 y1 y2 y3))
 | 0 => fun _ _ _ _ r h => by simp [barrowref02_stands.j0] at h
 | k + 1 => by
  have ih0 := barrowref02_stands.mono_l k
  ·intro y0 y1 y2 y3
   unfold barrowref02_stands.j0
   repeat' first
   | (with_reducible exact ih0 _ _ _ _)
   | (with_reducible exact LeO.refl _)
   | (with_reducible exact LeO.none _)
   | (with_reducible refine LeO.ite ?_ ?_)
   | (with_reducible refine LeO.bind ?_ (fun _ => ?_))
   | exact ih0 _ _ _ _
   | exact LeO.none _
   | refine LeO.ite ?_ ?_
   | refine LeO.bind ?_ (fun _ => ?_)
theorem barrowref02_stands.mono : ∀ a0 a1 k, LeO (barrowref02_stands.f k a0 a1) (barrowref02_stands.f (k + 1) a0 a1) := by
 intro a0 a1 k
 have ih0 := barrowref02_stands.mono_l k
 unfold barrowref02_stands.f
 repeat' first
   | (with_reducible exact ih0 _ _ _ _)
   | (with_reducible exact LeO.refl _)
   | (with_reducible exact LeO.none _)
   | (with_reducible refine LeO.ite ?_ ?_)
   | (with_reducible refine LeO.bind ?_ (fun _ => ?_))
   | exact ih0 _ _ _ _
   | exact LeO.none _
   | refine LeO.ite ?_ ?_
   | refine LeO.bind ?_ (fun _ => ?_)
set_option maxHeartbeats 8000000 in
set_option maxRecDepth 100000 in
theorem barrowref02_stands.calls (k : Nat) (a0 : ByteArray) (a1 : Int) (r : Bool) (w : World) (h : barrowref02_stands.f k a0 a1 = some r) :
  Calls Tryd.prog 100 #[.string a0, .int .i64 a1] w fun e w' => e = .returned (.bool r) ∧ Drawn0 w w' := by
 have H : (if 0 ≤ a1 then (if a1 < (a0.size : Int) then ((barrowref02_letter.f (bt a0 a1)).bind fun t161 => (if t161 = true then (barrowref02_stands.j0 k a0 a1 (bt a0 a1) true) else ((barrowref02_digit.f (bt a0 a1)).bind fun t162 => (barrowref02_stands.j0 k a0 a1 (bt a0 a1) t162)))) else (none)) else (none)) = some r := h
 clear h
 by_cases c3 : 0 ≤ a1
 ·rw [if_pos c3] at H
  have c3b0 : decide (0 ≤ a1) = true := decide_eq_true c3
  clear c3
  by_cases c4 : a1 < (a0.size : Int)
  ·rw [if_pos c4] at H
   have c4b0 : decide (a1 < (a0.size : Int)) = true := decide_eq_true c4
   clear c4
   have HC6 := Aside0.mk H
   clear H
   have p5 : 0 ≤ (a1 : Int) := of_decide_eq_true (by first | (with_reducible assumption) | assumption)
   have q5 : a1 < (a0.size : Int) := of_decide_eq_true (by first | (with_reducible assumption) | assumption)
   have hx5 := bt_at a0 a1
   replace p5 := eq_true p5
   replace q5 := eq_true q5
   go_enter Tryd.func100, Tryd.ntmps100
   go_upto_region 2 with (fail)
   go_cut [14] (fun v14 wc => ∃ (kq : Nat) (x14_5 : Bool), v14 = .bool x14_5 ∧ Aside0 (barrowref02_stands.j0 kq a0 a1 (bt a0 a1) x14_5 = some r) ∧ Aside0 (kq ≤ k) ∧ Drawn0 w wc)
   case first =>
    have H := HC6.out
    clear HC6
    replace H := Option.bind_eq_some_iff.mp H
    obtain ⟨t161, A70, H⟩ := H
    replace H : (if t161 = true then (barrowref02_stands.j0 k a0 a1 (bt a0 a1) true) else ((barrowref02_digit.f (bt a0 a1)).bind fun t162 => (barrowref02_stands.j0 k a0 a1 (bt a0 a1) t162))) = some r := H
    have A7 := Aside0.mk A70
    clear A70
    by_cases c8 : t161 = true
    ·subst c8
     have H1 : (barrowref02_stands.j0 k a0 a1 (bt a0 a1) true) = some r := by rw [if_pos rfl] at H; exact H
     clear H
     have H := H1
     clear H1
     have H' := Aside0.mk H
     clear H
     go_wp2_with (first | ((with_reducible refine gate_callee (f := 110) rfl ?_); refine goesL_ (some 10) rfl rfl Tryd.func110 (by kernel_rfl) rfl #[.int .u8 (bt a0 a1)] rfl (by (try simp only [List.map_toArray, List.map_cons, List.map_nil]); first | done | rfl | (simp only [List.length_drop, List.length_take]; rfl)) ?_; (with_reducible refine (barrowref02_letter.calls (bt a0 a1) true _ A7.out).mono ?_); rintro e w' ⟨rfl, ⟨nd, rfl⟩⟩; refine ⟨_, rfl, ?_⟩))
     go_meet
     case rel => exact ⟨_, (true), (by first | rfl | (simp; done) | (simp [*]; done)), H', ⟨by first | omega | exact Nat.le_refl _⟩, by repeat (first | exact Drawn0.refl _ | apply Drawn0.step)⟩
    ·replace c8 := Bool.eq_false_iff.mpr c8
     subst c8
     have H1 : ((barrowref02_digit.f (bt a0 a1)).bind fun t162 => (barrowref02_stands.j0 k a0 a1 (bt a0 a1) t162)) = some r := by rw [if_neg (show ¬ (false = true) by decide)] at H; exact H
     clear H
     have H := H1
     clear H1
     replace H := Option.bind_eq_some_iff.mp H
     obtain ⟨t162, A90, H⟩ := H
     replace H : (barrowref02_stands.j0 k a0 a1 (bt a0 a1) t162) = some r := H
     have A9 := Aside0.mk A90
     clear A90
     have H' := Aside0.mk H
     clear H
     go_wp2_with (first | ((with_reducible refine gate_callee (f := 110) rfl ?_); refine goesL_ (some 10) rfl rfl Tryd.func110 (by kernel_rfl) rfl #[.int .u8 (bt a0 a1)] rfl (by (try simp only [List.map_toArray, List.map_cons, List.map_nil]); first | done | rfl | (simp only [List.length_drop, List.length_take]; rfl)) ?_; (with_reducible refine (barrowref02_letter.calls (bt a0 a1) false _ A7.out).mono ?_); rintro e w' ⟨rfl, ⟨nd, rfl⟩⟩; refine ⟨_, rfl, ?_⟩) | (go_at_call 111; (with_reducible refine (barrowref02_digit.calls (bt a0 a1) t162 _ A9.out).mono ?_); rintro e w' ⟨rfl, ⟨nd, rfl⟩⟩))
     go_meet
     case rel => exact ⟨_, (t162), (by first | rfl | (simp; done) | (simp [*]; done)), H', ⟨by first | omega | exact Nat.le_refl _⟩, by repeat (first | exact Drawn0.refl _ | apply Drawn0.step)⟩
   case rest =>
    clear HC6
    try clear c1
    try clear p2
    try clear c3
    try clear c3b0
    try clear c4
    try clear c4b0
    try clear p5
    try clear q5
    try clear hx5
    try clear c8
    try clear p5
    try clear q5
    obtain ⟨kq, x14_5, rfl, HA, HJ5, ⟨mc5, rfl⟩⟩ := hcut
    cases kq with
    | zero => exact absurd HA.out (by simp [barrowref02_stands.j0])
    | succ kj5 =>
     have H := HA.out
     clear HA
     simp only [barrowref02_stands.j0] at H
     by_cases c10 : x14_5 = true
     ·subst c10
      have H1 : (some true) = some r := by rw [if_pos rfl] at H; exact H
      clear H
      have H := H1
      clear H1
      obtain rfl := Option.some.inj H
      go_wp2
      go_ret
      exact ⟨by first | rfl | (simp; done) | (simp [*]; done), by repeat (first | exact Drawn0.refl _ | apply Drawn0.step)⟩
     ·replace c10 := Bool.eq_false_iff.mpr c10
      subst c10
      have H1 : ((barrowref02_mark.f (bt a0 a1)).bind fun t163 => (if t163 = true then (if a1 = 0 then (some false) else (if a1 = (wrap64 ((a0.size : Int) - 1)) then (some false) else (if 0 ≤ (wrap64 (a1 - 1)) then (if (wrap64 (a1 - 1)) < (a0.size : Int) then ((barrowref02_mark.f (bt a0 (wrap64 (a1 - 1)))).bind fun t164 => (some (!t164))) else (none)) else (none)))) else (some false))) = some r := by rw [if_neg (show ¬ (false = true) by decide)] at H; exact H
      clear H
      have H := H1
      clear H1
      replace H := Option.bind_eq_some_iff.mp H
      obtain ⟨t163, A110, H⟩ := H
      replace H : (if t163 = true then (if a1 = 0 then (some false) else (if a1 = (wrap64 ((a0.size : Int) - 1)) then (some false) else (if 0 ≤ (wrap64 (a1 - 1)) then (if (wrap64 (a1 - 1)) < (a0.size : Int) then ((barrowref02_mark.f (bt a0 (wrap64 (a1 - 1)))).bind fun t164 => (some (!t164))) else (none)) else (none)))) else (some false)) = some r := H
      have A11 := Aside0.mk A110
      clear A110
      by_cases c12 : t163 = true
      ·subst c12
       have H1 : (if a1 = 0 then (some false) else (if a1 = (wrap64 ((a0.size : Int) - 1)) then (some false) else (if 0 ≤ (wrap64 (a1 - 1)) then (if (wrap64 (a1 - 1)) < (a0.size : Int) then ((barrowref02_mark.f (bt a0 (wrap64 (a1 - 1)))).bind fun t164 => (some (!t164))) else (none)) else (none)))) = some r := by rw [if_pos rfl] at H; exact H
       clear H
       have H := H1
       clear H1
       by_cases c13 : a1 = 0
       ·rw [if_pos c13] at H
        have c13b0 : (a1 == 0) = true := beq_iff_eq.mpr c13
        have c13b1 : (a1 != 0) = false := bne_eq_false_iff_eq.mpr c13
        clear c13
        obtain rfl := Option.some.inj H
        go_wp2_with (first | ((with_reducible refine gate_callee (f := 112) rfl ?_); refine goesL_ (some 16) rfl rfl Tryd.func112 (by kernel_rfl) rfl #[.int .u8 (bt a0 a1)] rfl (by (try simp only [List.map_toArray, List.map_cons, List.map_nil]); first | done | rfl | (simp only [List.length_drop, List.length_take]; rfl)) ?_; (with_reducible refine (barrowref02_mark.calls (bt a0 a1) true _ A11.out).mono ?_); rintro e w' ⟨rfl, ⟨nd, rfl⟩⟩; refine ⟨_, rfl, ?_⟩))
        go_ret
        exact ⟨by first | rfl | (simp; done) | (simp [*]; done), by repeat (first | exact Drawn0.refl _ | apply Drawn0.step)⟩
       ·rw [if_neg c13] at H
        have c13b0 : (a1 == 0) = false := beq_eq_false_iff_ne.mpr c13
        have c13b1 : (a1 != 0) = true := bne_iff_ne.mpr c13
        by_cases c14 : a1 = (wrap64 ((a0.size : Int) - 1))
        ·rw [if_pos c14] at H
         have c14b0 : (a1 == (wrap64 ((a0.size : Int) - 1))) = true := beq_iff_eq.mpr c14
         have c14b1 : (a1 != (wrap64 ((a0.size : Int) - 1))) = false := bne_eq_false_iff_eq.mpr c14
         clear c14
         obtain rfl := Option.some.inj H
         go_wp2_with (first | ((with_reducible refine gate_callee (f := 112) rfl ?_); refine goesL_ (some 16) rfl rfl Tryd.func112 (by kernel_rfl) rfl #[.int .u8 (bt a0 a1)] rfl (by (try simp only [List.map_toArray, List.map_cons, List.map_nil]); first | done | rfl | (simp only [List.length_drop, List.length_take]; rfl)) ?_; (with_reducible refine (barrowref02_mark.calls (bt a0 a1) true _ A11.out).mono ?_); rintro e w' ⟨rfl, ⟨nd, rfl⟩⟩; refine ⟨_, rfl, ?_⟩))
         go_ret
         exact ⟨by first | rfl | (simp; done) | (simp [*]; done), by repeat (first | exact Drawn0.refl _ | apply Drawn0.step)⟩
        ·rw [if_neg c14] at H
         have c14b0 : (a1 == (wrap64 ((a0.size : Int) - 1))) = false := beq_eq_false_iff_ne.mpr c14
         have c14b1 : (a1 != (wrap64 ((a0.size : Int) - 1))) = true := bne_iff_ne.mpr c14
         obtain ⟨ji15, hji15⟩ : ∃ j_ : Int, (wrap64 (a1 - 1)) = j_ := ⟨_, rfl⟩
         replace H : (if 0 ≤ (ji15) then (if (ji15) < (a0.size : Int) then ((barrowref02_mark.f (bt a0 (ji15))).bind fun t164 => (some (!t164))) else (none)) else (none)) = some r := by first | (rw [hji15] at H; exact H) | (simp only [hji15] at H ⊢; exact H)
         (try rw [hji15] at A11)
         have hji15w : (IntKind.i64.wrap (a1 - 1)) = ji15 := (i64_w _).trans hji15
         by_cases c16 : 0 ≤ (ji15)
         ·rw [if_pos c16] at H
          have c16b0 : decide (0 ≤ (ji15)) = true := decide_eq_true c16
          clear c16
          by_cases c17 : (ji15) < (a0.size : Int)
          ·rw [if_pos c17] at H
           have c17b0 : decide ((ji15) < (a0.size : Int)) = true := decide_eq_true c17
           clear c17
           replace H := Option.bind_eq_some_iff.mp H
           obtain ⟨t164, A190, H⟩ := H
           replace H : (some (!t164)) = some r := H
           have A19 := Aside0.mk A190
           clear A190
           obtain rfl := Option.some.inj H
           go_wp2_with (first | ((with_reducible refine gate_callee (f := 112) rfl ?_); refine goesL_ (some 16) rfl rfl Tryd.func112 (by kernel_rfl) rfl #[.int .u8 (bt a0 a1)] rfl (by (try simp only [List.map_toArray, List.map_cons, List.map_nil]); first | done | rfl | (simp only [List.length_drop, List.length_take]; rfl)) ?_; (with_reducible refine (barrowref02_mark.calls (bt a0 a1) true _ A11.out).mono ?_); rintro e w' ⟨rfl, ⟨nd, rfl⟩⟩; refine ⟨_, rfl, ?_⟩; have p18 : 0 ≤ ((ji15) : Int) := of_decide_eq_true (by first | (with_reducible assumption) | assumption); have q18 : (ji15) < (a0.size : Int) := of_decide_eq_true (by first | (with_reducible assumption) | assumption); have hx18 := bt_at a0 (ji15); replace p18 := eq_true p18; replace q18 := eq_true q18) | ((with_reducible refine gate_callee (f := 112) rfl ?_); refine goesL_ (some 31) rfl rfl Tryd.func112 (by kernel_rfl) rfl #[.int .u8 (bt a0 (ji15))] rfl (by (try simp only [List.map_toArray, List.map_cons, List.map_nil]); first | done | (simp only [hji15]; rfl) | rfl | (simp only [List.length_drop, List.length_take]; rfl)) ?_; (with_reducible refine (barrowref02_mark.calls (bt a0 (ji15)) t164 _ A19.out).mono ?_); rintro e w' ⟨rfl, ⟨nd, rfl⟩⟩; refine ⟨_, rfl, ?_⟩))
           go_ret
           exact ⟨by first | rfl | (simp; done) | (simp only [← hji15] <;> (first | rfl | simp)) | (simp [*]; done), by repeat (first | exact Drawn0.refl _ | apply Drawn0.step)⟩
          ·rw [if_neg c17] at H
           exact absurd H (by simp)
         ·rw [if_neg c16] at H
          exact absurd H (by simp)
      ·replace c12 := Bool.eq_false_iff.mpr c12
       subst c12
       have H1 : (some false) = some r := by rw [if_neg (show ¬ (false = true) by decide)] at H; exact H
       clear H
       have H := H1
       clear H1
       obtain rfl := Option.some.inj H
       go_wp2_with (first | ((with_reducible refine gate_callee (f := 112) rfl ?_); refine goesL_ (some 16) rfl rfl Tryd.func112 (by kernel_rfl) rfl #[.int .u8 (bt a0 a1)] rfl (by (try simp only [List.map_toArray, List.map_cons, List.map_nil]); first | done | rfl | (simp only [List.length_drop, List.length_take]; rfl)) ?_; (with_reducible refine (barrowref02_mark.calls (bt a0 a1) false _ A11.out).mono ?_); rintro e w' ⟨rfl, ⟨nd, rfl⟩⟩; refine ⟨_, rfl, ?_⟩))
       go_ret
       exact ⟨by first | rfl | (simp; done) | (simp [*]; done), by repeat (first | exact Drawn0.refl _ | apply Drawn0.step)⟩
  ·rw [if_neg c4] at H
   exact absurd H (by simp)
 ·rw [if_neg c3] at H
  exact absurd H (by simp)

end Go.Proofs.YtlmdhpfggobogaaDoor.G
