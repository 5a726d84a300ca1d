import Derived.Test.YtmicghhmbojkfaaGreatDoorQAl6
-- PRINTED by print.py (a twelfth state) out of the translation. Not trusted: Lean checks it.
namespace Go.Proofs.YtmicghhmbojkfaaGreatDoor.G
open Go.RowKit Go.Proofs.YtmicghhmbojkfaaGreatDoorW.PrintWords Go.Proofs.YtmicghhmbojkfaaGreatDoorW.PrintLast Go.Proofs.YtmicghhmbojkfaaGreatDoorW.PrintMore
attribute [local go_sem] max2_int min2_int max_two min_two max_three min_three max_four min_four   -- for this text's walks alone
set_option linter.unusedVariables false
set_option linter.unusedSimpArgs false

/-! ### goods_fits: function 23 -/
def goods_fits.f (a0 : Int) (a1 : Int) : Option (Bool) := if a0 = 63 then (some true) else (if a0 = 35 then ((goods_isDigit.f a1).bind fun t197 => (some t197)) else (if a0 = 64 then ((goods_isLetter.f a1).bind fun t198 => (some t198)) else (some (a0 == a1))))
set_option maxHeartbeats 8000000 in
set_option maxRecDepth 100000 in
theorem goods_fits.calls (a0 : Int) (a1 : Int) (r : Bool) (w : World) (h : goods_fits.f a0 a1 = some r) :
  Calls Tryz.prog 23 #[.int .u8 a0, .int .u8 a1] w fun e w' => e = .returned (.bool r) ∧ Drawn0 w w' := by
 have H : (if a0 = 63 then (some true) else (if a0 = 35 then ((goods_isDigit.f a1).bind fun t197 => (some t197)) else (if a0 = 64 then ((goods_isLetter.f a1).bind fun t198 => (some t198)) else (some (a0 == a1))))) = some r := h
 clear h
 by_cases c3 : a0 = 63
 ·rw [if_pos c3] at H
  have c3b0 : (a0 == 63) = true := beq_iff_eq.mpr c3
  have c3b1 : (a0 != 63) = false := bne_eq_false_iff_eq.mpr c3
  clear c3
  obtain rfl := Option.some.inj H
  go_enter Tryz.func23, Tryz.ntmps23
  go_wp2
  go_ret
  exact ⟨by first | rfl | (simp; done) | (simp [*]; done), by repeat (first | exact Drawn0.refl _ | apply Drawn0.step)⟩
 ·rw [if_neg c3] at H
  have c3b0 : (a0 == 63) = false := beq_eq_false_iff_ne.mpr c3
  have c3b1 : (a0 != 63) = true := bne_iff_ne.mpr c3
  by_cases c4 : a0 = 35
  ·rw [if_pos c4] at H
   have c4b0 : (a0 == 35) = true := beq_iff_eq.mpr c4
   have c4b1 : (a0 != 35) = false := bne_eq_false_iff_eq.mpr c4
   clear c4
   replace H := Option.bind_eq_some_iff.mp H
   obtain ⟨t197, A50, H⟩ := H
   replace H : (some t197) = some r := H
   have A5 := Aside0.mk A50
   clear A50
   obtain rfl := Option.some.inj H
   go_enter Tryz.func23, Tryz.ntmps23
   go_wp2_with (first | ((with_reducible refine gate_callee (f := 18) rfl ?_); refine goesL_ (some 11) rfl rfl Tryz.func18 (by kernel_rfl) rfl #[.int .u8 a1] rfl (by (try simp only [List.map_toArray, List.map_cons, List.map_nil]); first | done | rfl | (simp only [List.length_drop, List.length_take]; rfl)) ?_; (with_reducible refine (goods_isDigit.calls a1 t197 _ A5.out).mono ?_); rintro e w' ⟨rfl, ⟨nd, rfl⟩⟩; refine ⟨_, rfl, ?_⟩))
   go_ret
   exact ⟨by first | rfl | (simp; done) | (simp [*]; done), by repeat (first | exact Drawn0.refl _ | apply Drawn0.step)⟩
  ·rw [if_neg c4] at H
   have c4b0 : (a0 == 35) = false := beq_eq_false_iff_ne.mpr c4
   have c4b1 : (a0 != 35) = true := bne_iff_ne.mpr c4
   by_cases c6 : a0 = 64
   ·rw [if_pos c6] at H
    have c6b0 : (a0 == 64) = true := beq_iff_eq.mpr c6
    have c6b1 : (a0 != 64) = false := bne_eq_false_iff_eq.mpr c6
    clear c6
    replace H := Option.bind_eq_some_iff.mp H
    obtain ⟨t198, A70, H⟩ := H
    replace H : (some t198) = some r := H
    have A7 := Aside0.mk A70
    clear A70
    obtain rfl := Option.some.inj H
    go_enter Tryz.func23, Tryz.ntmps23
    go_wp2_with (first | ((with_reducible refine gate_callee (f := 17) rfl ?_); refine goesL_ (some 15) rfl rfl Tryz.func17 (by kernel_rfl) rfl #[.int .u8 a1] rfl (by (try simp only [List.map_toArray, List.map_cons, List.map_nil]); first | done | rfl | (simp only [List.length_drop, List.length_take]; rfl)) ?_; (with_reducible refine (goods_isLetter.calls a1 t198 _ A7.out).mono ?_); rintro e w' ⟨rfl, ⟨nd, rfl⟩⟩; refine ⟨_, rfl, ?_⟩))
    go_ret
    exact ⟨by first | rfl | (simp; done) | (simp [*]; done), by repeat (first | exact Drawn0.refl _ | apply Drawn0.step)⟩
   ·rw [if_neg c6] at H
    have c6b0 : (a0 == 64) = false := beq_eq_false_iff_ne.mpr c6
    have c6b1 : (a0 != 64) = true := bne_iff_ne.mpr c6
    obtain rfl := Option.some.inj H
    go_enter Tryz.func23, Tryz.ntmps23
    go_wp2
    go_ret
    exact ⟨by first | rfl | (simp; done) | (simp [*]; done), by repeat (first | exact Drawn0.refl _ | apply Drawn0.step)⟩

end Go.Proofs.YtmicghhmbojkfaaGreatDoor.G

-- PRINTED by print.py (a twelfth state) out of the translation. Not trusted: Lean checks it.
namespace Go.Proofs.YtmicghhmbojkfaaGreatDoor.G
open Go.RowKit Go.Proofs.YtmicghhmbojkfaaGreatDoorW.PrintWords Go.Proofs.YtmicghhmbojkfaaGreatDoorW.PrintLast Go.Proofs.YtmicghhmbojkfaaGreatDoorW.PrintMore
attribute [local go_sem] max2_int min2_int max_two min_two max_three min_three max_four min_four   -- for this text's walks alone
set_option linter.unusedVariables false
set_option linter.unusedSimpArgs false

/-! ### barrowref02_fits: function 81 -/
def barrowref02_fits.f (a0 : Int) (a1 : Int) : Option (Bool) := if a0 = 63 then (some true) else (if a0 = 35 then ((barrowref02_digit.f a1).bind fun t222 => (some t222)) else (if a0 = 64 then ((barrowref02_letter.f a1).bind fun t223 => (some t223)) else (some (a0 == a1))))
set_option maxHeartbeats 8000000 in
set_option maxRecDepth 100000 in
theorem barrowref02_fits.calls (a0 : Int) (a1 : Int) (r : Bool) (w : World) (h : barrowref02_fits.f a0 a1 = some r) :
  Calls Tryz.prog 81 #[.int .u8 a0, .int .u8 a1] w fun e w' => e = .returned (.bool r) ∧ Drawn0 w w' := by
 have H : (if a0 = 63 then (some true) else (if a0 = 35 then ((barrowref02_digit.f a1).bind fun t222 => (some t222)) else (if a0 = 64 then ((barrowref02_letter.f a1).bind fun t223 => (some t223)) else (some (a0 == a1))))) = some r := h
 clear h
 by_cases c3 : a0 = 63
 ·rw [if_pos c3] at H
  have c3b0 : (a0 == 63) = true := beq_iff_eq.mpr c3
  have c3b1 : (a0 != 63) = false := bne_eq_false_iff_eq.mpr c3
  clear c3
  obtain rfl := Option.some.inj H
  go_enter Tryz.func81, Tryz.ntmps81
  go_wp2
  go_ret
  exact ⟨by first | rfl | (simp; done) | (simp [*]; done), by repeat (first | exact Drawn0.refl _ | apply Drawn0.step)⟩
 ·rw [if_neg c3] at H
  have c3b0 : (a0 == 63) = false := beq_eq_false_iff_ne.mpr c3
  have c3b1 : (a0 != 63) = true := bne_iff_ne.mpr c3
  by_cases c4 : a0 = 35
  ·rw [if_pos c4] at H
   have c4b0 : (a0 == 35) = true := beq_iff_eq.mpr c4
   have c4b1 : (a0 != 35) = false := bne_eq_false_iff_eq.mpr c4
   clear c4
   replace H := Option.bind_eq_some_iff.mp H
   obtain ⟨t222, A50, H⟩ := H
   replace H : (some t222) = some r := H
   have A5 := Aside0.mk A50
   clear A50
   obtain rfl := Option.some.inj H
   go_enter Tryz.func81, Tryz.ntmps81
   go_wp2_with (first | ((with_reducible refine gate_callee (f := 52) rfl ?_); refine goesL_ (some 11) rfl rfl Tryz.func52 (by kernel_rfl) rfl #[.int .u8 a1] rfl (by (try simp only [List.map_toArray, List.map_cons, List.map_nil]); first | done | rfl | (simp only [List.length_drop, List.length_take]; rfl)) ?_; (with_reducible refine (barrowref02_digit.calls a1 t222 _ A5.out).mono ?_); rintro e w' ⟨rfl, ⟨nd, rfl⟩⟩; refine ⟨_, rfl, ?_⟩))
   go_ret
   exact ⟨by first | rfl | (simp; done) | (simp [*]; done), by repeat (first | exact Drawn0.refl _ | apply Drawn0.step)⟩
  ·rw [if_neg c4] at H
   have c4b0 : (a0 == 35) = false := beq_eq_false_iff_ne.mpr c4
   have c4b1 : (a0 != 35) = true := bne_iff_ne.mpr c4
   by_cases c6 : a0 = 64
   ·rw [if_pos c6] at H
    have c6b0 : (a0 == 64) = true := beq_iff_eq.mpr c6
    have c6b1 : (a0 != 64) = false := bne_eq_false_iff_eq.mpr c6
    clear c6
    replace H := Option.bind_eq_some_iff.mp H
    obtain ⟨t223, A70, H⟩ := H
    replace H : (some t223) = some r := H
    have A7 := Aside0.mk A70
    clear A70
    obtain rfl := Option.some.inj H
    go_enter Tryz.func81, Tryz.ntmps81
    go_wp2_with (first | ((with_reducible refine gate_callee (f := 79) rfl ?_); refine goesL_ (some 15) rfl rfl Tryz.func79 (by kernel_rfl) rfl #[.int .u8 a1] rfl (by (try simp only [List.map_toArray, List.map_cons, List.map_nil]); first | done | rfl | (simp only [List.length_drop, List.length_take]; rfl)) ?_; (with_reducible refine (barrowref02_letter.calls a1 t223 _ A7.out).mono ?_); rintro e w' ⟨rfl, ⟨nd, rfl⟩⟩; refine ⟨_, rfl, ?_⟩))
    go_ret
    exact ⟨by first | rfl | (simp; done) | (simp [*]; done), by repeat (first | exact Drawn0.refl _ | apply Drawn0.step)⟩
   ·rw [if_neg c6] at H
    have c6b0 : (a0 == 64) = false := beq_eq_false_iff_ne.mpr c6
    have c6b1 : (a0 != 64) = true := bne_iff_ne.mpr c6
    obtain rfl := Option.some.inj H
    go_enter Tryz.func81, Tryz.ntmps81
    go_wp2
    go_ret
    exact ⟨by first | rfl | (simp; done) | (simp [*]; done), by repeat (first | exact Drawn0.refl _ | apply Drawn0.step)⟩

end Go.Proofs.YtmicghhmbojkfaaGreatDoor.G
