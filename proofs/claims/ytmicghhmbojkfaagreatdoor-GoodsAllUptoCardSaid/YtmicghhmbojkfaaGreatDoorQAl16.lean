import Derived.Test.YtmicghhmbojkfaaGreatDoorQAl6
import Derived.Test.YtmicghhmbojkfaaGreatDoorQAl5
/- strings.Compare of the program's text: the order by bytes. -/
namespace Go.Proofs.YtmicghhmbojkfaaGreatDoor.G
open Go.RowKit Go.Proofs.YtmicghhmbojkfaaGreatDoorW.PrintWords Go.Proofs.YtmicghhmbojkfaaGreatDoorW.PrintLast
def strings_Compare.f (a0 : ByteArray) (a1 : ByteArray) : Option Int := some (Lib.compareBytes a0.data.toList a1.data.toList)
theorem strings_Compare.calls (a0 : ByteArray) (a1 : ByteArray) (r : Int) (w : World) (h : strings_Compare.f a0 a1 = some r) :
    Calls Tryz.prog 26 #[.string a0, .string a1] w fun e w' => e = .returned (.int .i64 r) ∧ Drawn0 w w' := by
  unfold strings_Compare.f at h
  simp only [Option.some.injEq] at h
  subst h
  exact (Tryz.strings_Compare a0 a1 w).mono fun e w' ⟨he, hw⟩ => ⟨he, hw ▸ Drawn0.refl _⟩
end Go.Proofs.YtmicghhmbojkfaaGreatDoor.G

/- strings.TrimLeft of the program's text at the cutset "0": the text without its 0s in front. -/
namespace Go.Proofs.YtmicghhmbojkfaaGreatDoor.G
open Go.RowKit Go.Proofs.YtmicghhmbojkfaaGreatDoorW.PrintWords Go.Proofs.YtmicghhmbojkfaaGreatDoorW.PrintLast Go.Proofs.YtmicghhmbojkfaaGreatDoorW.PrintMore
def strings_TrimLeft.f (a0 : ByteArray) (a1 : ByteArray) : Option ByteArray := if a1 = ⟨#[48]⟩ then some ⟨(Lib.trimLeftB a0.data.toList 48).toArray⟩ else none
theorem strings_TrimLeft.calls (a0 : ByteArray) (a1 : ByteArray) (r : ByteArray) (w : World) (h : strings_TrimLeft.f a0 a1 = some r) :
    Calls Tryz.prog 35 #[.string a0, .string a1] w fun e w' => e = .returned (.string r) ∧ Below w.heap.size w w' := by
  unfold strings_TrimLeft.f at h
  split at h
  · rename_i hc
    subst hc
    injection h with h
    subst h
    exact (Tryz.strings_TrimLeft_one a0 48 (by decide) w).mono fun e w' ⟨he, hw⟩ => ⟨he, hw ▸ Below.refl _ _⟩
  · cases h
end Go.Proofs.YtmicghhmbojkfaaGreatDoor.G

-- PRINTED by print.py (a twelfth state) out of the translation. Not trusted: Lean checks it.
namespace Go.Proofs.YtmicghhmbojkfaaGreatDoor.G
open Go.RowKit Go.Proofs.YtmicghhmbojkfaaGreatDoorW.PrintWords Go.Proofs.YtmicghhmbojkfaaGreatDoorW.PrintLast Go.Proofs.YtmicghhmbojkfaaGreatDoorW.PrintMore
attribute [local go_sem] max2_int min2_int max_two min_two max_three min_three max_four min_four   -- for this text's walks alone
set_option linter.unusedVariables false
set_option linter.unusedSimpArgs false

/-! ### goods_numbers: function 25 -/
def goods_numbers.f (a0 : ByteArray) (a1 : ByteArray) : Option (Int) := (strings_TrimLeft.f a0 (⟨#[48]⟩ : ByteArray)).bind fun t109 => ((strings_TrimLeft.f a1 (⟨#[48]⟩ : ByteArray)).bind fun t110 => (if (t109.size : Int) = (t110.size : Int) then ((strings_Compare.f t109 t110).bind fun t111 => (some t111)) else (if (t109.size : Int) < (t110.size : Int) then (some (-1)) else (some 1))))
set_option maxHeartbeats 8000000 in
set_option maxRecDepth 100000 in
theorem goods_numbers.calls (a0 : ByteArray) (a1 : ByteArray) (r : Int) (w : World) (h : goods_numbers.f a0 a1 = some r) :
  Calls Tryz.prog 25 #[.string a0, .string a1] w fun e w' => e = .returned (.int .i64 r) ∧ Below w.heap.size w w' := by
 have HB := Aside0.mk (Below.refl w.heap.size w)
 have H : ((strings_TrimLeft.f a0 (⟨#[48]⟩ : ByteArray)).bind fun t109 => ((strings_TrimLeft.f a1 (⟨#[48]⟩ : ByteArray)).bind fun t110 => (if (t109.size : Int) = (t110.size : Int) then ((strings_Compare.f t109 t110).bind fun t111 => (some t111)) else (if (t109.size : Int) < (t110.size : Int) then (some (-1)) else (some 1))))) = some r := h
 clear h
 replace H := Option.bind_eq_some_iff.mp H
 obtain ⟨t109, A30, H⟩ := H
 replace H : ((strings_TrimLeft.f a1 (⟨#[48]⟩ : ByteArray)).bind fun t110 => (if (t109.size : Int) = (t110.size : Int) then ((strings_Compare.f t109 t110).bind fun t111 => (some t111)) else (if (t109.size : Int) < (t110.size : Int) then (some (-1)) else (some 1)))) = some r := H
 have A3 := Aside0.mk A30
 clear A30
 replace H := Option.bind_eq_some_iff.mp H
 obtain ⟨t110, A40, H⟩ := H
 replace H : (if (t109.size : Int) = (t110.size : Int) then ((strings_Compare.f t109 t110).bind fun t111 => (some t111)) else (if (t109.size : Int) < (t110.size : Int) then (some (-1)) else (some 1))) = some r := H
 have A4 := Aside0.mk A40
 clear A40
 by_cases c5 : (t109.size : Int) = (t110.size : Int)
 ·rw [if_pos c5] at H
  have c5b0 : ((t109.size : Int) == (t110.size : Int)) = true := beq_iff_eq.mpr c5
  have c5b1 : ((t109.size : Int) != (t110.size : Int)) = false := bne_eq_false_iff_eq.mpr c5
  have c5b2 : (t109.size == t110.size) = true := by first | simpa using c5 | (simp at c5 ⊢; omega)
  clear c5
  replace H := Option.bind_eq_some_iff.mp H
  obtain ⟨t111, A60, H⟩ := H
  replace H : (some t111) = some r := H
  have A6 := Aside0.mk A60
  clear A60
  obtain rfl := Option.some.inj H
  go_enter Tryz.func25, Tryz.ntmps25
  go_wp2_with (first | ((with_reducible refine gate_callee (f := 35) rfl ?_); refine goesL_ (some 6) rfl rfl Tryz.func35 (by kernel_rfl) rfl #[.string a0, .string (⟨#[48]⟩ : ByteArray)] rfl (by (try simp only [List.map_toArray, List.map_cons, List.map_nil]); first | done | rfl | (simp only [List.length_drop, List.length_take]; rfl)) ?_; (with_reducible refine (strings_TrimLeft.calls a0 (⟨#[48]⟩ : ByteArray) t109 _ A3.out).mono ?_); rintro e w7 ⟨rfl, hb⟩; refine ⟨_, rfl, ?_⟩; have n0_ := Aside0.mk (below_step (by repeat (first | (with_reducible first | exact HB.out | apply below_alloc | apply pw_below_drewN | apply below_drew1) | exact HB.out)) hb); clear HB; have HB := n0_; clear n0_; (try clear hb); (try clear hb2); (try clear hk); (try clear hi)) | ((with_reducible refine gate_callee (f := 35) rfl ?_); refine goesL_ (some 8) rfl rfl Tryz.func35 (by kernel_rfl) rfl #[.string a1, .string (⟨#[48]⟩ : ByteArray)] rfl (by (try simp only [List.map_toArray, List.map_cons, List.map_nil]); first | done | rfl | (simp only [List.length_drop, List.length_take]; rfl)) ?_; (with_reducible refine (strings_TrimLeft.calls a1 (⟨#[48]⟩ : ByteArray) t110 _ A4.out).mono ?_); rintro e w8 ⟨rfl, hb⟩; refine ⟨_, rfl, ?_⟩; have n0_ := Aside0.mk (below_step (by repeat (first | (with_reducible first | exact HB.out | apply below_alloc | apply pw_below_drewN | apply below_drew1) | exact HB.out)) hb); clear HB; have HB := n0_; clear n0_; (try clear hb); (try clear hb2); (try clear hk); (try clear hi)) | ((with_reducible refine gate_callee (f := 26) rfl ?_); refine goesL_ (some 21) rfl rfl Tryz.func26 (by kernel_rfl) rfl #[.string t109, .string t110] rfl (by (try simp only [List.map_toArray, List.map_cons, List.map_nil]); first | done | rfl | (simp only [List.length_drop, List.length_take]; rfl)) ?_; (with_reducible refine (strings_Compare.calls t109 t110 t111 _ A6.out).mono ?_); rintro e w' ⟨rfl, ⟨nd, rfl⟩⟩; refine ⟨_, rfl, ?_⟩))
  go_ret
  exact ⟨by first | rfl | (simp [errW_none, errW_some] <;> rfl) | (simp [*, errW_none, errW_some] <;> rfl), by repeat (first | (with_reducible first | exact HB.out | apply below_alloc | apply pw_below_drewN | apply below_drew1) | exact HB.out)⟩
 ·rw [if_neg c5] at H
  have c5b0 : ((t109.size : Int) == (t110.size : Int)) = false := beq_eq_false_iff_ne.mpr c5
  have c5b1 : ((t109.size : Int) != (t110.size : Int)) = true := bne_iff_ne.mpr c5
  have c5b2 : (t109.size == t110.size) = false := by first | simpa using c5 | (simp at c5 ⊢; omega)
  by_cases c9 : (t109.size : Int) < (t110.size : Int)
  ·rw [if_pos c9] at H
   have c9b0 : decide ((t109.size : Int) < (t110.size : Int)) = true := decide_eq_true c9
   have c9b1 : decide (t109.size < t110.size) = true := decide_eq_true (Int.ofNat_lt.mp c9)
   clear c9
   obtain rfl := Option.some.inj H
   go_enter Tryz.func25, Tryz.ntmps25
   go_wp2_with (first | ((with_reducible refine gate_callee (f := 35) rfl ?_); refine goesL_ (some 6) rfl rfl Tryz.func35 (by kernel_rfl) rfl #[.string a0, .string (⟨#[48]⟩ : ByteArray)] rfl (by (try simp only [List.map_toArray, List.map_cons, List.map_nil]); first | done | rfl | (simp only [List.length_drop, List.length_take]; rfl)) ?_; (with_reducible refine (strings_TrimLeft.calls a0 (⟨#[48]⟩ : ByteArray) t109 _ A3.out).mono ?_); rintro e w10 ⟨rfl, hb⟩; refine ⟨_, rfl, ?_⟩; have n0_ := Aside0.mk (below_step (by repeat (first | (with_reducible first | exact HB.out | apply below_alloc | apply pw_below_drewN | apply below_drew1) | exact HB.out)) hb); clear HB; have HB := n0_; clear n0_; (try clear hb); (try clear hb2); (try clear hk); (try clear hi)) | ((with_reducible refine gate_callee (f := 35) rfl ?_); refine goesL_ (some 8) rfl rfl Tryz.func35 (by kernel_rfl) rfl #[.string a1, .string (⟨#[48]⟩ : ByteArray)] rfl (by (try simp only [List.map_toArray, List.map_cons, List.map_nil]); first | done | rfl | (simp only [List.length_drop, List.length_take]; rfl)) ?_; (with_reducible refine (strings_TrimLeft.calls a1 (⟨#[48]⟩ : ByteArray) t110 _ A4.out).mono ?_); rintro e w11 ⟨rfl, hb⟩; refine ⟨_, rfl, ?_⟩; have n0_ := Aside0.mk (below_step (by repeat (first | (with_reducible first | exact HB.out | apply below_alloc | apply pw_below_drewN | apply below_drew1) | exact HB.out)) hb); clear HB; have HB := n0_; clear n0_; (try clear hb); (try clear hb2); (try clear hk); (try clear hi)))
   go_ret
   exact ⟨by first | rfl | (simp [errW_none, errW_some] <;> rfl) | (simp [*, errW_none, errW_some] <;> rfl), by repeat (first | (with_reducible first | exact HB.out | apply below_alloc | apply pw_below_drewN | apply below_drew1) | exact HB.out)⟩
  ·rw [if_neg c9] at H
   have c9b0 : decide ((t109.size : Int) < (t110.size : Int)) = false := decide_eq_false c9
   have c9b1 : decide (t109.size < t110.size) = false := decide_eq_false (fun h => c9 (Int.ofNat_lt.mpr h))
   clear c9
   obtain rfl := Option.some.inj H
   go_enter Tryz.func25, Tryz.ntmps25
   go_wp2_with (first | ((with_reducible refine gate_callee (f := 35) rfl ?_); refine goesL_ (some 6) rfl rfl Tryz.func35 (by kernel_rfl) rfl #[.string a0, .string (⟨#[48]⟩ : ByteArray)] rfl (by (try simp only [List.map_toArray, List.map_cons, List.map_nil]); first | done | rfl | (simp only [List.length_drop, List.length_take]; rfl)) ?_; (with_reducible refine (strings_TrimLeft.calls a0 (⟨#[48]⟩ : ByteArray) t109 _ A3.out).mono ?_); rintro e w12 ⟨rfl, hb⟩; refine ⟨_, rfl, ?_⟩; have n0_ := Aside0.mk (below_step (by repeat (first | (with_reducible first | exact HB.out | apply below_alloc | apply pw_below_drewN | apply below_drew1) | exact HB.out)) hb); clear HB; have HB := n0_; clear n0_; (try clear hb); (try clear hb2); (try clear hk); (try clear hi)) | ((with_reducible refine gate_callee (f := 35) rfl ?_); refine goesL_ (some 8) rfl rfl Tryz.func35 (by kernel_rfl) rfl #[.string a1, .string (⟨#[48]⟩ : ByteArray)] rfl (by (try simp only [List.map_toArray, List.map_cons, List.map_nil]); first | done | rfl | (simp only [List.length_drop, List.length_take]; rfl)) ?_; (with_reducible refine (strings_TrimLeft.calls a1 (⟨#[48]⟩ : ByteArray) t110 _ A4.out).mono ?_); rintro e w13 ⟨rfl, hb⟩; refine ⟨_, rfl, ?_⟩; have n0_ := Aside0.mk (below_step (by repeat (first | (with_reducible first | exact HB.out | apply below_alloc | apply pw_below_drewN | apply below_drew1) | exact HB.out)) hb); clear HB; have HB := n0_; clear n0_; (try clear hb); (try clear hb2); (try clear hk); (try clear hi)))
   go_ret
   exact ⟨by first | rfl | (simp [errW_none, errW_some] <;> rfl) | (simp [*, errW_none, errW_some] <;> rfl), by repeat (first | (with_reducible first | exact HB.out | apply below_alloc | apply pw_below_drewN | apply below_drew1) | exact HB.out)⟩

end Go.Proofs.YtmicghhmbojkfaaGreatDoor.G
