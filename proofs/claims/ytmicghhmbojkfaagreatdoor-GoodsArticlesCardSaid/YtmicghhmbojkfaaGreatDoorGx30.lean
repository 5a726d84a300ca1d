-- PRINTED by print.py (a twelfth state) out of the translation. Not trusted: Lean checks it.
import Derived.Test.YtmicghhmbojkfaaGreatDoorGx0
import Derived.Test.YtmicghhmbojkfaaGreatDoorGx28
namespace Go.Proofs.YtmicghhmbojkfaaGreatDoor.G
open Go.RowKit Go.Proofs.YtmicghhmbojkfaaGreatDoorW.PrintWords Go.Proofs.YtmicghhmbojkfaaGreatDoorW.PrintLast Go.Proofs.YtmicghhmbojkfaaGreatDoorW.PrintMore
attribute [local go_sem] max2_int min2_int max_two min_two max_three min_three max_four min_four   -- for this text's walks alone
set_option linter.unusedVariables false
set_option linter.unusedSimpArgs false

/-! ### barrowref02_Widen: function 49 -/
def barrowref02_Widen.l0 : Nat → ByteArray → Int → Option (ByteArray × Int)
 | 0, _, _ => none
 | k + 1, x6, x7 => if x7 < 14 then (if 1 + x6.size ≤ 9223372036854775807 then (barrowref02_Widen.l0 k ((⟨#[48]⟩ : ByteArray) ++ x6) (wrap64 (x7 + 1))) else (none)) else (some (x6, 0))
def barrowref02_Widen.f (k : Nat) (a0 : ByteArray) : Option (ByteArray × Int) := (barrowref02_Gtin.f k a0).bind fun bt179 => (if bt179.2 = 0 then (barrowref02_Widen.l0 k a0 bt179.1) else (some ((⟨#[]⟩ : ByteArray), bt179.2)))
theorem barrowref02_Widen.mono_l : ∀ k, (∀ y0 y1, LeO (barrowref02_Widen.l0 k y0 y1) (barrowref02_Widen.l0 (k + 1) y0 y1))
 | 0 => fun _ _ r h => by simp [barrowref02_Widen.l0] at h
 | k + 1 => by
  have ih0 := barrowref02_Widen.mono_l k
  ·intro y0 y1
   unfold barrowref02_Widen.l0
   repeat' first
   | (with_reducible exact ih0 _ _)
   | (with_reducible exact barrowref02_Gtin.mono _ _)
   | (with_reducible exact LeO.refl _)
   | (with_reducible exact LeO.none _)
   | (with_reducible refine LeO.ite ?_ ?_)
   | (with_reducible refine LeO.bind ?_ (fun _ => ?_))
   | exact ih0 _ _
   | exact barrowref02_Gtin.mono _ _
   | exact LeO.none _
   | refine LeO.ite ?_ ?_
   | refine LeO.bind ?_ (fun _ => ?_)
theorem barrowref02_Widen.mono : ∀ a0 k, LeO (barrowref02_Widen.f k a0) (barrowref02_Widen.f (k + 1) a0) := by
 intro a0 k
 have ih0 := barrowref02_Widen.mono_l k
 unfold barrowref02_Widen.f
 repeat' first
   | (with_reducible exact ih0 _ _)
   | (with_reducible exact barrowref02_Gtin.mono _ _)
   | (with_reducible exact LeO.refl _)
   | (with_reducible exact LeO.none _)
   | (with_reducible refine LeO.ite ?_ ?_)
   | (with_reducible refine LeO.bind ?_ (fun _ => ?_))
   | exact ih0 _ _
   | exact barrowref02_Gtin.mono _ _
   | exact LeO.none _
   | refine LeO.ite ?_ ?_
   | refine LeO.bind ?_ (fun _ => ?_)
set_option maxHeartbeats 8000000 in
set_option maxRecDepth 100000 in
theorem barrowref02_Widen.calls (k : Nat) (a0 : ByteArray) (r1 : ByteArray) (r2 : Int) (w : World) (h : barrowref02_Widen.f k a0 = some (r1, r2)) :
  Calls Tryz.prog 49 #[.string a0] w fun e w' => e = .returned (.tuple #[.string r1, .int .i64 r2]) ∧ Drawn0 w w' := by
 have H : ((barrowref02_Gtin.f k a0).bind fun bt179 => (if bt179.2 = 0 then (barrowref02_Widen.l0 k a0 bt179.1) else (some ((⟨#[]⟩ : ByteArray), bt179.2)))) = some (r1, r2) := h
 clear h
 replace H := Option.bind_eq_some_iff.mp H
 obtain ⟨⟨t179, t180⟩, A20, H⟩ := H
 replace H : (if t180 = 0 then (barrowref02_Widen.l0 k a0 t179) else (some ((⟨#[]⟩ : ByteArray), t180))) = some (r1, r2) := H
 have A2 := Aside0.mk A20
 clear A20
 by_cases c3 : t180 = 0
 ·rw [if_pos c3] at H
  have c3b0 : (t180 == 0) = true := beq_iff_eq.mpr c3
  have c3b1 : (t180 != 0) = false := bne_eq_false_iff_eq.mpr c3
  clear c3
  have H' := Aside0.mk H
  clear H
  go_enter Tryz.func49, Tryz.ntmps49
  go_wp2_with (first | ((with_reducible refine gate_callee (f := 47) rfl ?_); refine goesL_ (some 10) rfl rfl Tryz.func47 (by kernel_rfl) rfl #[.string a0] rfl (by (try simp only [List.map_toArray, List.map_cons, List.map_nil]); first | done | rfl | (simp only [List.length_drop, List.length_take]; rfl)) ?_; (with_reducible refine (barrowref02_Gtin.calls k a0 t179 t180 _ A2.out).mono ?_); rintro e w' ⟨rfl, ⟨nd, rfl⟩⟩; refine ⟨_, rfl, ?_⟩))
  go_loopg [6, 7] k (fun kq v6 v7 w' => ∃ (x6_1 : ByteArray) (x7_1 : Int), v6 = .string x6_1 ∧ v7 = .int .i64 x7_1 ∧ Aside0 (barrowref02_Widen.l0 kq x6_1 x7_1 = some (r1, r2)) ∧ Aside0 (kq ≤ k) ∧ Drawn0 w w')
  case atStart => exact ⟨(a0), (t179), (by first | rfl | (simp; done) | (simp [*]; done)), (by first | rfl | (simp; done) | (simp [*]; done)), H', ⟨Nat.le_refl _⟩, by repeat (first | exact Drawn0.refl _ | apply Drawn0.step)⟩
  case round =>
   clear H'
   try clear p2
   try clear c3
   try clear c3b0
   try clear c3b1
   obtain ⟨x6_1, x7_1, rfl, rfl, HA, HK1, ⟨m1, rfl⟩⟩ := hrel
   cases gk with
   | zero => exact absurd HA.out (by simp [barrowref02_Widen.l0])
   | succ k1 =>
    have H := HA.out
    clear HA
    simp only [barrowref02_Widen.l0] at H
    by_cases c4 : x7_1 < 14
    ·rw [if_pos c4] at H
     have c4b0 : decide (x7_1 < 14) = true := decide_eq_true c4
     clear c4
     by_cases c5 : 1 + x6_1.size ≤ 9223372036854775807
     ·rw [if_pos c5] at H
      have c5b0 := eq_true c5
      have c5b1 : decide (1 + x6_1.size ≤ 9223372036854775807) = true := decide_eq_true c5
      try have c5b2 : (9223372036854775807 < 1 + x6_1.size) = False := eq_false (Nat.not_lt.2 c5)
      have H' := Aside0.mk H
      clear H
      go_wp2
      go_roundg k1
      case measure => have := HK1.out; omega
      case rel => exact ⟨((⟨#[48]⟩ : ByteArray) ++ x6_1), (wrap64 (x7_1 + 1)), (by first | rfl | (simp; done) | (simp [*]; done)), (by first | rfl | (simp; done) | (simp [*]; done)), H', ⟨by have := HK1.out; omega⟩, by repeat (first | exact Drawn0.refl _ | apply Drawn0.step)⟩
     ·rw [if_neg c5] at H
      exact absurd H (by simp)
    ·rw [if_neg c4] at H
     have c4b0 : decide (x7_1 < 14) = false := decide_eq_false c4
     clear c4
     simp only [Option.some.injEq, Prod.mk.injEq] at H
     obtain ⟨rfl, rfl⟩ := H
     go_wp2
     go_ret2
     exact ⟨by first | rfl | (simp; done) | (simp [*]; done), by repeat (first | exact Drawn0.refl _ | apply Drawn0.step)⟩
 ·rw [if_neg c3] at H
  have c3b0 : (t180 == 0) = false := beq_eq_false_iff_ne.mpr c3
  have c3b1 : (t180 != 0) = true := bne_iff_ne.mpr c3
  simp only [Option.some.injEq, Prod.mk.injEq] at H
  obtain ⟨rfl, rfl⟩ := H
  go_enter Tryz.func49, Tryz.ntmps49
  go_wp2_with (first | ((with_reducible refine gate_callee (f := 47) rfl ?_); refine goesL_ (some 10) rfl rfl Tryz.func47 (by kernel_rfl) rfl #[.string a0] rfl (by (try simp only [List.map_toArray, List.map_cons, List.map_nil]); first | done | rfl | (simp only [List.length_drop, List.length_take]; rfl)) ?_; (with_reducible refine (barrowref02_Gtin.calls k a0 t179 t180 _ A2.out).mono ?_); rintro e w' ⟨rfl, ⟨nd, rfl⟩⟩; refine ⟨_, rfl, ?_⟩))
  go_ret2
  exact ⟨by first | rfl | (simp; done) | (simp [*]; done), by repeat (first | exact Drawn0.refl _ | apply Drawn0.step)⟩

end Go.Proofs.YtmicghhmbojkfaaGreatDoor.G
