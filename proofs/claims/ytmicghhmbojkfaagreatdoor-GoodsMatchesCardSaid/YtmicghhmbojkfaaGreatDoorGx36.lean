-- PRINTED by print.py (a twelfth state) out of the translation. Not trusted: Lean checks it.
import Derived.Test.YtmicghhmbojkfaaGreatDoorGx0
namespace Go.Proofs.YtmicghhmbojkfaaGreatDoor.G
open Go.RowKit Go.Proofs.YtmicghhmbojkfaaGreatDoorW.PrintWords Go.Proofs.YtmicghhmbojkfaaGreatDoorW.PrintLast Go.Proofs.YtmicghhmbojkfaaGreatDoorW.PrintMore
attribute [local go_sem] max2_int min2_int max_two min_two max_three min_three max_four min_four   -- for this text's walks alone
set_option linter.unusedVariables false
set_option linter.unusedSimpArgs false

/-! ### barrowlaw02_isBool: function 51 -/
def barrowlaw02_isBool.f (a0 : Bool) (a1 : Int) (a2 : Bool) (a3 : Int) : Option (Bool) := if (a0 == a2) = true then (some (a1 == a3)) else (some false)
set_option maxHeartbeats 8000000 in
set_option maxRecDepth 100000 in
theorem barrowlaw02_isBool.calls (a0 : Bool) (a1 : Int) (a2 : Bool) (a3 : Int) (r : Bool) (w : World) (h : barrowlaw02_isBool.f a0 a1 a2 a3 = some r) :
  Calls Tryz.prog 51 #[.bool a0, .int .i64 a1, .bool a2, .int .i64 a3] w fun e w' => e = .returned (.bool r) ∧ Drawn0 w w' := by
 have H : (if (a0 == a2) = true then (some (a1 == a3)) else (some false)) = some r := h
 clear h
 by_cases c5 : (a0 == a2) = true
 ·rw [if_pos c5] at H
  have c5b0 : (a0 == a2) = true := c5
  (try (have c5b1 : decide (a0 = a2) = true := by simpa using c5))
  (try (have c5b2 : (a0 == a2) = true := by simpa using c5))
  clear c5
  obtain rfl := Option.some.inj H
  go_enter Tryz.func51, Tryz.ntmps51
  go_wp2
  go_ret
  exact ⟨by first | rfl | (simp; done) | (simp [*]; done), by repeat (first | exact Drawn0.refl _ | apply Drawn0.step)⟩
 ·rw [if_neg c5] at H
  have c5b0 : (a0 == a2) = false := by simpa using c5
  (try (have c5b1 : decide (a0 = a2) = false := by simpa using c5))
  (try (have c5b2 : (a0 == a2) = false := by simpa using c5))
  (try (have c5b3 : ¬ (a0 = a2) := by simpa using c5))
  clear c5
  obtain rfl := Option.some.inj H
  go_enter Tryz.func51, Tryz.ntmps51
  go_wp2
  go_ret
  exact ⟨by first | rfl | (simp; done) | (simp [*]; done), by repeat (first | exact Drawn0.refl _ | apply Drawn0.step)⟩

end Go.Proofs.YtmicghhmbojkfaaGreatDoor.G
