-- PRINTED by print.py (a twelfth state) out of the translation. Not trusted: Lean checks it.
import Derived.Test.YteldhpneegccjaaGx0
import Derived.Test.YteldhpneegccjaaGx8
import Derived.Test.YteldhpneegccjaaGx43
import Derived.Test.YteldhpneegccjaaGx44
import Derived.Test.YteldhpneegccjaaGx45
import Derived.Test.YteldhpneegccjaaGx46
namespace Go.Proofs.Yteldhpneegccjaa.G
open Go.RowKit Go.Proofs.YteldhpneegccjaaW.PrintWords Go.Proofs.YteldhpneegccjaaW.PrintLast Go.Proofs.YteldhpneegccjaaW.PrintMore
attribute [local go_sem] max2_int min2_int max_two min_two max_three min_three max_four min_four   -- for this text's walks alone
set_option linter.unusedVariables false
set_option linter.unusedSimpArgs false

/-! ### barrowlaw01_SpanChanges: function 10 -/
mutual
def barrowlaw01_SpanChanges.j0 : Nat → List (S26) → Int → Bool → Option (Bool)
 | 0, _, _, _ => none
 | k + 1, x0, x1, x35 => if x35 = true then (some false) else ((barrowref01_Put.f k x0 x1).bind fun bt576 => ((barrowref01_Drop.f k x0 x1).bind fun bt580 => ((span_Put.f k x0 x1).bind fun bt584 => (if bt584.2 = bt576.2 then ((barrowref01_Equal.f k bt584.1 bt576.1).bind fun t588 => (barrowlaw01_SpanChanges.j1 k x0 x1 bt580.1 bt580.2 (!t588))) else (barrowlaw01_SpanChanges.j1 k x0 x1 bt580.1 bt580.2 true)))))
def barrowlaw01_SpanChanges.j1 : Nat → List (S26) → Int → List (S26) → Int → Bool → Option (Bool)
 | 0, _, _, _, _, _ => none
 | k + 1, x0, x1, x9, x10, x62 => if x62 = true then (some false) else ((span_Drop.f k x0 x1).bind fun bt589 => (if bt589.2 = x10 then ((barrowref01_Equal.f k bt589.1 x9).bind fun t593 => (some t593)) else (some false)))
end
def barrowlaw01_SpanChanges.f (k : Nat) (l0 : List (S26)) (a1 : Int) : Option (Bool) := (span_Put.f k ([] : List (S26)) 7).bind fun bt570 => (if bt570.2 = 0 then (if (bt570.1.length : Int) = 1 then (if 0 < (bt570.1.length : Int) then (if ((rd_T26 bt570.1 0).f0) = 7 then (barrowlaw01_SpanChanges.j0 k l0 a1 (((rd_T26 bt570.1 0).f1) != 7)) else (barrowlaw01_SpanChanges.j0 k l0 a1 true)) else (none)) else (barrowlaw01_SpanChanges.j0 k l0 a1 true)) else (barrowlaw01_SpanChanges.j0 k l0 a1 true))
theorem barrowlaw01_SpanChanges.mono_l : ∀ k, (∀ y0 y1 y2, LeO (barrowlaw01_SpanChanges.j0 k y0 y1 y2) (barrowlaw01_SpanChanges.j0 (k + 1) y0 y1 y2)) ∧ (∀ y0 y1 y2 y3 y4, LeO (barrowlaw01_SpanChanges.j1 k y0 y1 y2 y3 y4) (barrowlaw01_SpanChanges.j1 (k + 1) y0 y1 y2 y3 y4))
 | 0 => ⟨fun _ _ _ r h => by simp [barrowlaw01_SpanChanges.j0] at h, fun _ _ _ _ _ r h => by simp [barrowlaw01_SpanChanges.j1] at h⟩
 | k + 1 => by
  obtain ⟨ih0, ih1⟩ := barrowlaw01_SpanChanges.mono_l k
  refine ⟨?_, ?_⟩
  ·intro y0 y1 y2
   unfold barrowlaw01_SpanChanges.j0
   repeat' first
   | (with_reducible exact ih0 _ _ _)
   | (with_reducible exact ih1 _ _ _ _ _)
   | (with_reducible exact barrowref01_Drop.mono _ _ _)
   | (with_reducible exact barrowref01_Equal.mono _ _ _)
   | (with_reducible exact barrowref01_Put.mono _ _ _)
   | (with_reducible exact span_Drop.mono _ _ _)
   | (with_reducible exact span_Put.mono _ _ _)
   | (with_reducible exact LeO.refl _)
   | (with_reducible exact LeO.none _)
   | (with_reducible refine LeO.ite ?_ ?_)
   | (with_reducible refine LeO.bind ?_ (fun _ => ?_))
   | exact ih0 _ _ _
   | exact ih1 _ _ _ _ _
   | exact barrowref01_Drop.mono _ _ _
   | exact barrowref01_Equal.mono _ _ _
   | exact barrowref01_Put.mono _ _ _
   | exact span_Drop.mono _ _ _
   | exact span_Put.mono _ _ _
   | exact LeO.none _
   | refine LeO.ite ?_ ?_
   | refine LeO.bind ?_ (fun _ => ?_)
  ·intro y0 y1 y2 y3 y4
   unfold barrowlaw01_SpanChanges.j1
   repeat' first
   | (with_reducible exact ih0 _ _ _)
   | (with_reducible exact ih1 _ _ _ _ _)
   | (with_reducible exact barrowref01_Drop.mono _ _ _)
   | (with_reducible exact barrowref01_Equal.mono _ _ _)
   | (with_reducible exact barrowref01_Put.mono _ _ _)
   | (with_reducible exact span_Drop.mono _ _ _)
   | (with_reducible exact span_Put.mono _ _ _)
   | (with_reducible exact LeO.refl _)
   | (with_reducible exact LeO.none _)
   | (with_reducible refine LeO.ite ?_ ?_)
   | (with_reducible refine LeO.bind ?_ (fun _ => ?_))
   | exact ih0 _ _ _
   | exact ih1 _ _ _ _ _
   | exact barrowref01_Drop.mono _ _ _
   | exact barrowref01_Equal.mono _ _ _
   | exact barrowref01_Put.mono _ _ _
   | exact span_Drop.mono _ _ _
   | exact span_Put.mono _ _ _
   | exact LeO.none _
   | refine LeO.ite ?_ ?_
   | refine LeO.bind ?_ (fun _ => ?_)
theorem barrowlaw01_SpanChanges.mono : ∀ a0 a1 k, LeO (barrowlaw01_SpanChanges.f k a0 a1) (barrowlaw01_SpanChanges.f (k + 1) a0 a1) := by
 intro a0 a1 k
 obtain ⟨ih0, ih1⟩ := barrowlaw01_SpanChanges.mono_l k
 unfold barrowlaw01_SpanChanges.f
 repeat' first
   | (with_reducible exact ih0 _ _ _)
   | (with_reducible exact ih1 _ _ _ _ _)
   | (with_reducible exact barrowref01_Drop.mono _ _ _)
   | (with_reducible exact barrowref01_Equal.mono _ _ _)
   | (with_reducible exact barrowref01_Put.mono _ _ _)
   | (with_reducible exact span_Drop.mono _ _ _)
   | (with_reducible exact span_Put.mono _ _ _)
   | (with_reducible exact LeO.refl _)
   | (with_reducible exact LeO.none _)
   | (with_reducible refine LeO.ite ?_ ?_)
   | (with_reducible refine LeO.bind ?_ (fun _ => ?_))
   | exact ih0 _ _ _
   | exact ih1 _ _ _ _ _
   | exact barrowref01_Drop.mono _ _ _
   | exact barrowref01_Equal.mono _ _ _
   | exact barrowref01_Put.mono _ _ _
   | exact span_Drop.mono _ _ _
   | exact span_Put.mono _ _ _
   | exact LeO.none _
   | refine LeO.ite ?_ ?_
   | refine LeO.bind ?_ (fun _ => ?_)
set_option maxHeartbeats 8000000 in
set_option maxRecDepth 100000 in
theorem barrowlaw01_SpanChanges.calls (k : Nat) (A0 : Option Addr) (c0 : Nat) (l0 : List (S26)) (a1 : Int) (r : Bool) (w : World) (hr0 : Kd.C k26 w A0 l0.length l0) (hc0 : l0.length ≤ c0) (h : barrowlaw01_SpanChanges.f k l0 a1 = some r) :
  Calls Try.prog 10 #[.slice A0 l0.length c0, .int .i64 a1] w fun e w' => e = .returned (.bool r) ∧ Below w.heap.size w w' := by
 have HR0 := Aside0.mk hr0
 have HC0 := Aside0.mk hc0
 clear hr0 hc0
 have HB := Aside0.mk (Below.refl w.heap.size w)
 have H : ((span_Put.f k ([] : List (S26)) 7).bind fun bt570 => (if bt570.2 = 0 then (if (bt570.1.length : Int) = 1 then (if 0 < (bt570.1.length : Int) then (if ((rd_T26 bt570.1 0).f0) = 7 then (barrowlaw01_SpanChanges.j0 k l0 a1 (((rd_T26 bt570.1 0).f1) != 7)) else (barrowlaw01_SpanChanges.j0 k l0 a1 true)) else (none)) else (barrowlaw01_SpanChanges.j0 k l0 a1 true)) else (barrowlaw01_SpanChanges.j0 k l0 a1 true))) = some r := h
 clear h
 replace H := Option.bind_eq_some_iff.mp H
 obtain ⟨⟨t570, t573⟩, A30, H⟩ := H
 replace H : (if t573 = 0 then (if (t570.length : Int) = 1 then (if 0 < (t570.length : Int) then (if ((rd_T26 t570 0).f0) = 7 then (barrowlaw01_SpanChanges.j0 k l0 a1 (((rd_T26 t570 0).f1) != 7)) else (barrowlaw01_SpanChanges.j0 k l0 a1 true)) else (none)) else (barrowlaw01_SpanChanges.j0 k l0 a1 true)) else (barrowlaw01_SpanChanges.j0 k l0 a1 true)) = some r := H
 have A3 := Aside0.mk A30
 clear A30
 have HC4 := Aside0.mk H
 clear H
 go_enter Try.func10, Try.ntmps10
 go_upto_region 2 with (first | ((with_reducible refine gate_callee (f := 49) rfl ?_); refine goesL_ (some 12) rfl rfl Try.func49 (by kernel_rfl) rfl #[.slice none 0 0, .int .i64 7] rfl (by (try simp only [List.map_toArray, List.map_cons, List.map_nil]); first | done | rfl | (simp only [List.length_drop, List.length_take]; rfl)) ?_; (refine (span_Put.calls k (fun k_ => False) _ _ ([] : List (S26)) 7 t570 t573 _ ?side1 A3.out).mono ?_); (case side1 => exact Kd.V_nil _ _ _ _ _); rintro e w5 ⟨v571, rfl, ho0, hb⟩; refine ⟨_, rfl, ?_⟩; have n0_ := Aside0.mk (Kd.R_lower (Kd.R_mono (ok' := fun k_ => True) ho0 (fun _ hk_ => trivial)) (below_size (by repeat (first | (with_reducible first | exact HB.out | apply below_alloc | apply pw_below_drewN | apply below_drew1) | exact HB.out)))); have n1_ := Aside0.mk (below_step (by repeat (first | (with_reducible first | exact HB.out | apply below_alloc | apply pw_below_drewN | apply below_drew1) | exact HB.out)) hb); clear HB; have HO572 := n0_; have HB := n1_; clear n0_ n1_; (try clear hb); (try clear hb2); (try clear hk); (try clear hi); (try clear ho0)))
 (try simp only [Act.put, List.setIfInBounds_toArray, List.set_cons_zero, List.set_cons_succ])
 go_cut [35] (fun v35 wc => ∃ (kq : Nat) (x35_3 : Bool), v35 = .bool x35_3 ∧ Aside0 (barrowlaw01_SpanChanges.j0 kq l0 a1 x35_3 = some r) ∧ Aside0 (kq ≤ k) ∧ Aside0 (Below w.heap.size w wc))
 case first =>
  have H := HC4.out
  clear HC4
  by_cases c6 : t573 = 0
  ·rw [if_pos c6] at H
   have c6b0 : (t573 == 0) = true := beq_iff_eq.mpr c6
   have c6b1 : (t573 != 0) = false := bne_eq_false_iff_eq.mpr c6
   clear c6
   (first | rw [c6b0] | (simp only [i64_w, i32_w]; rw [c6b0]) | skip)
   by_cases c7 : (t570.length : Int) = 1
   ·rw [if_pos c7] at H
    have c7b0 : ((t570.length : Int) == 1) = true := beq_iff_eq.mpr c7
    have c7b1 : ((t570.length : Int) != 1) = false := bne_eq_false_iff_eq.mpr c7
    clear c7
    by_cases c8 : 0 < (t570.length : Int)
    ·rw [if_pos c8] at H
     have c8b0 : decide (0 < (t570.length : Int)) = true := decide_eq_true c8
     have c8b1 : decide (0 < t570.length) = true := decide_eq_true (by omega)
     clear c8
     by_cases c9 : ((rd_T26 t570 0).f0) = 7
     ·rw [if_pos c9] at H
      have c9b0 : (((rd_T26 t570 0).f0) == 7) = true := beq_iff_eq.mpr c9
      have c9b1 : (((rd_T26 t570 0).f0) != 7) = false := bne_eq_false_iff_eq.mpr c9
      clear c9
      have H' := Aside0.mk H
      clear H
      obtain ⟨Ao10, co10, eo10⟩ := Kd.R_slice HO572.out
      subst eo10
      have p574 : 0 ≤ (0 : Int) := (by omega)
      have q574 : 0 < (t570.length : Int) := of_decide_eq_true (by first | (with_reducible assumption) | assumption)
      obtain ⟨ad574, e574, hx574_0, hx574_1⟩ := at_T26 (Kd.R_reads' HO572.out).2.2 0 p574 q574
      cases e574
      have qi574 : (0 < t570.length) = True := eq_true (by omega)
      (try rw [show ((0 : Int)).toNat = 0 from rfl] at hx574_0)
      (try rw [show 0 * 2 = 0 from rfl] at hx574_0)
      (try rw [Addr.add_zero'] at hx574_0)
      (try rw [show ((0 : Int)).toNat = 0 from rfl] at hx574_1)
      (try rw [show 0 * 2 = 0 from rfl] at hx574_1)
      (try rw [Addr.add_zero'] at hx574_1)
      replace p574 := eq_true p574
      replace q574 := eq_true q574
      have p575 : 0 ≤ (0 : Int) := (by omega)
      have q575 : 0 < (t570.length : Int) := of_decide_eq_true (by first | (with_reducible assumption) | assumption)
      obtain ⟨ad575, e575, hx575_0, hx575_1⟩ := at_T26 (Kd.R_reads' HO572.out).2.2 0 p575 q575
      obtain rfl : ad574 = ad575 := (by injection e575)
      have qi575 : (0 < t570.length) = True := eq_true (by omega)
      (try rw [show ((0 : Int)).toNat = 0 from rfl] at hx575_0)
      (try rw [show 0 * 2 = 0 from rfl] at hx575_0)
      (try rw [Addr.add_zero'] at hx575_0)
      (try rw [show ((0 : Int)).toNat = 0 from rfl] at hx575_1)
      (try rw [show 0 * 2 = 0 from rfl] at hx575_1)
      (try rw [Addr.add_zero'] at hx575_1)
      replace p575 := eq_true p575
      replace q575 := eq_true q575
      go_wp2
      go_meet
      case rel => exact ⟨_, ((((rd_T26 t570 0).f1) != 7)), (by first | rfl | (simp; done) | (simp [*]; done)), H', ⟨by first | omega | exact Nat.le_refl _⟩, ⟨by repeat (first | (with_reducible first | exact HB.out | apply below_alloc | apply pw_below_drewN | apply below_drew1) | exact HB.out)⟩⟩
     ·rw [if_neg c9] at H
      have c9b0 : (((rd_T26 t570 0).f0) == 7) = false := beq_eq_false_iff_ne.mpr c9
      have c9b1 : (((rd_T26 t570 0).f0) != 7) = true := bne_iff_ne.mpr c9
      have H' := Aside0.mk H
      clear H
      obtain ⟨Ao11, co11, eo11⟩ := Kd.R_slice HO572.out
      subst eo11
      have p574 : 0 ≤ (0 : Int) := (by omega)
      have q574 : 0 < (t570.length : Int) := of_decide_eq_true (by first | (with_reducible assumption) | assumption)
      obtain ⟨ad574, e574, hx574_0, hx574_1⟩ := at_T26 (Kd.R_reads' HO572.out).2.2 0 p574 q574
      cases e574
      have qi574 : (0 < t570.length) = True := eq_true (by omega)
      (try rw [show ((0 : Int)).toNat = 0 from rfl] at hx574_0)
      (try rw [show 0 * 2 = 0 from rfl] at hx574_0)
      (try rw [Addr.add_zero'] at hx574_0)
      (try rw [show ((0 : Int)).toNat = 0 from rfl] at hx574_1)
      (try rw [show 0 * 2 = 0 from rfl] at hx574_1)
      (try rw [Addr.add_zero'] at hx574_1)
      replace p574 := eq_true p574
      replace q574 := eq_true q574
      go_wp2
      go_meet
      case rel => exact ⟨_, (true), (by first | rfl | (simp; done) | (simp [*]; done)), H', ⟨by first | omega | exact Nat.le_refl _⟩, ⟨by repeat (first | (with_reducible first | exact HB.out | apply below_alloc | apply pw_below_drewN | apply below_drew1) | exact HB.out)⟩⟩
    ·rw [if_neg c8] at H
     exact absurd H (by simp)
   ·rw [if_neg c7] at H
    have c7b0 : ((t570.length : Int) == 1) = false := beq_eq_false_iff_ne.mpr c7
    have c7b1 : ((t570.length : Int) != 1) = true := bne_iff_ne.mpr c7
    have H' := Aside0.mk H
    clear H
    obtain ⟨Ao12, co12, eo12⟩ := Kd.R_slice HO572.out
    subst eo12
    go_wp2
    go_meet
    case rel => exact ⟨_, (true), (by first | rfl | (simp; done) | (simp [*]; done)), H', ⟨by first | omega | exact Nat.le_refl _⟩, ⟨by repeat (first | (with_reducible first | exact HB.out | apply below_alloc | apply pw_below_drewN | apply below_drew1) | exact HB.out)⟩⟩
  ·rw [if_neg c6] at H
   have c6b0 : (t573 == 0) = false := beq_eq_false_iff_ne.mpr c6
   have c6b1 : (t573 != 0) = true := bne_iff_ne.mpr c6
   (first | rw [c6b0] | (simp only [i64_w, i32_w]; rw [c6b0]) | skip)
   have H' := Aside0.mk H
   clear H
   go_wp2
   go_meet
   case rel => exact ⟨_, (true), (by first | rfl | (simp; done) | (simp [*]; done)), H', ⟨by first | omega | exact Nat.le_refl _⟩, ⟨by repeat (first | (with_reducible first | exact HB.out | apply below_alloc | apply pw_below_drewN | apply below_drew1) | exact HB.out)⟩⟩
 case rest =>
  clear HC4
  try clear c1
  try clear p2
  try clear c4
  try clear p5
  try clear q5
  try clear hx5
  try clear qi5
  try clear c6
  try clear c6b0
  try clear c6b1
  try clear c7
  try clear c7b0
  try clear c7b1
  try clear c8
  try clear c8b0
  try clear c8b1
  try clear c9
  try clear c9b0
  try clear c9b1
  try clear c10
  try clear hx574_0
  try clear hx574_1
  try clear hx575_0
  try clear hx575_1
  try clear p574
  try clear p575
  try clear q574
  try clear q575
  obtain ⟨kq, x35_3, rfl, HA, HJ3, HB⟩ := hcut
  cases kq with
  | zero => exact absurd HA.out (by simp [barrowlaw01_SpanChanges.j0])
  | succ kj3 =>
   have H := HA.out
   clear HA
   simp only [barrowlaw01_SpanChanges.j0] at H
   by_cases c13 : x35_3 = true
   ·subst c13
    have H1 : (some false) = some r := by rw [if_pos rfl] at H; exact H
    clear H
    have H := H1
    clear H1
    obtain rfl := Option.some.inj H
    go_wp2
    go_ret
    exact ⟨by first | rfl | (simp [errW_none, errW_some] <;> rfl) | (simp [*, errW_none, errW_some] <;> rfl), by repeat (first | (with_reducible first | exact HB.out | apply below_alloc | apply pw_below_drewN | apply below_drew1) | exact HB.out)⟩
   ·replace c13 := Bool.eq_false_iff.mpr c13
    subst c13
    have H1 : ((barrowref01_Put.f kj3 l0 a1).bind fun bt576 => ((barrowref01_Drop.f kj3 l0 a1).bind fun bt580 => ((span_Put.f kj3 l0 a1).bind fun bt584 => (if bt584.2 = bt576.2 then ((barrowref01_Equal.f kj3 bt584.1 bt576.1).bind fun t588 => (barrowlaw01_SpanChanges.j1 kj3 l0 a1 bt580.1 bt580.2 (!t588))) else (barrowlaw01_SpanChanges.j1 kj3 l0 a1 bt580.1 bt580.2 true))))) = some r := by rw [if_neg (show ¬ (false = true) by decide)] at H; exact H
    clear H
    have H := H1
    clear H1
    replace H := Option.bind_eq_some_iff.mp H
    obtain ⟨⟨t576, t579⟩, A140, H⟩ := H
    replace H : ((barrowref01_Drop.f kj3 l0 a1).bind fun bt580 => ((span_Put.f kj3 l0 a1).bind fun bt584 => (if bt584.2 = t579 then ((barrowref01_Equal.f kj3 bt584.1 t576).bind fun t588 => (barrowlaw01_SpanChanges.j1 kj3 l0 a1 bt580.1 bt580.2 (!t588))) else (barrowlaw01_SpanChanges.j1 kj3 l0 a1 bt580.1 bt580.2 true)))) = some r := H
    have A14 := Aside0.mk A140
    clear A140
    replace H := Option.bind_eq_some_iff.mp H
    obtain ⟨⟨t580, t581⟩, A150, H⟩ := H
    replace H : ((span_Put.f kj3 l0 a1).bind fun bt584 => (if bt584.2 = t579 then ((barrowref01_Equal.f kj3 bt584.1 t576).bind fun t588 => (barrowlaw01_SpanChanges.j1 kj3 l0 a1 t580 t581 (!t588))) else (barrowlaw01_SpanChanges.j1 kj3 l0 a1 t580 t581 true))) = some r := H
    have A15 := Aside0.mk A150
    clear A150
    replace H := Option.bind_eq_some_iff.mp H
    obtain ⟨⟨t584, t587⟩, A160, H⟩ := H
    replace H : (if t587 = t579 then ((barrowref01_Equal.f kj3 t584 t576).bind fun t588 => (barrowlaw01_SpanChanges.j1 kj3 l0 a1 t580 t581 (!t588))) else (barrowlaw01_SpanChanges.j1 kj3 l0 a1 t580 t581 true)) = some r := H
    have A16 := Aside0.mk A160
    clear A160
    have HC17 := Aside0.mk H
    clear H
    go_upto_region 7 with (first | ((with_reducible refine gate_callee (f := 50) rfl ?_); refine goesL_ (some 39) rfl rfl Try.func50 (by kernel_rfl) rfl #[.slice A0 l0.length c0, .int .i64 a1] rfl (by (try simp only [List.map_toArray, List.map_cons, List.map_nil]); first | done | rfl | (simp only [List.length_drop, List.length_take]; rfl)) ?_; (with_reducible refine (barrowref01_Put.calls kj3 (fun k_ => k_ < w.heap.size) _ _ l0 a1 t576 t579 _ ?side1 A14.out).mono ?_); (case side1 => exact Kd.V_mk HC0.out (Kd.F_below (Kd.C_F k26_heap HR0.out) (by repeat (first | (with_reducible first | exact HB.out | apply below_alloc | apply pw_below_drewN | apply below_drew1) | exact HB.out)))); rintro e w18 ⟨v577, rfl, ho0, hb⟩; refine ⟨_, rfl, ?_⟩; have n0_ := Aside0.mk (Kd.R_lower (Kd.R_mono (ok' := fun k_ => True) ho0 (fun _ hk_ => trivial)) (below_size (by repeat (first | (with_reducible first | exact HB.out | apply below_alloc | apply pw_below_drewN | apply below_drew1) | exact HB.out)))); have n1_ := Aside0.mk (below_step (by repeat (first | (with_reducible first | exact HB.out | apply below_alloc | apply pw_below_drewN | apply below_drew1) | exact HB.out)) hb); clear HB; have HO578 := n0_; have HB := n1_; clear n0_ n1_; (try clear hb); (try clear hb2); (try clear hk); (try clear hi); (try clear ho0)) | ((with_reducible refine gate_callee (f := 51) rfl ?_); refine goesL_ (some 45) rfl rfl Try.func51 (by kernel_rfl) rfl #[.slice A0 l0.length c0, .int .i64 a1] rfl (by (try simp only [List.map_toArray, List.map_cons, List.map_nil]); first | done | rfl | (simp only [List.length_drop, List.length_take]; rfl)) ?_; (with_reducible refine (barrowref01_Drop.calls kj3 _ _ l0 a1 t580 t581 _ ?side1 ?side2 A15.out).mono ?_); (case side1 => repeat (first | exact (Kd.C_below HR0.out HB.out) | (with_reducible refine Kd.C_alloc ?_ _) | (with_reducible refine Kd.C_drewN ?_ _) | (with_reducible refine Kd.C_drew ?_))); (case side2 => exact HC0.out); rintro e w19 ⟨v582, rfl, ho0, hb⟩; refine ⟨_, rfl, ?_⟩; have n0_ := Aside0.mk (Kd.R_elder' (by (with_reducible repeat (first | apply Kd.R_alloc | apply Kd.R_drewN | apply Kd.R_drew)); exact HO578.out) (Kd.R_base ho0) hb); have n1_ := Aside0.mk (Kd.R_lower (Kd.R_new' ho0 (Kd.R_lt (by (with_reducible repeat (first | apply Kd.R_alloc | apply Kd.R_drewN | apply Kd.R_drew)); exact HO578.out))) (below_size (by repeat (first | (with_reducible first | exact HB.out | apply below_alloc | apply pw_below_drewN | apply below_drew1) | exact HB.out)))); have n2_ := Aside0.mk (below_step (by repeat (first | (with_reducible first | exact HB.out | apply below_alloc | apply pw_below_drewN | apply below_drew1) | exact HB.out)) hb); clear HO578; clear HB; have HO578 := n0_; have HO583 := n1_; have HB := n2_; clear n0_ n1_ n2_; (try clear hb); (try clear hb2); (try clear hk); (try clear hi); (try clear ho0)) | ((with_reducible refine gate_callee (f := 49) rfl ?_); refine goesL_ (some 51) rfl rfl Try.func49 (by kernel_rfl) rfl #[.slice A0 l0.length c0, .int .i64 a1] rfl (by (try simp only [List.map_toArray, List.map_cons, List.map_nil]); first | done | rfl | (simp only [List.length_drop, List.length_take]; rfl)) ?_; (with_reducible refine (span_Put.calls kj3 (fun k_ => k_ < w.heap.size) _ _ l0 a1 t584 t587 _ ?side1 A16.out).mono ?_); (case side1 => exact Kd.V_mk HC0.out (Kd.F_below (Kd.C_F k26_heap HR0.out) (by repeat (first | (with_reducible first | exact HB.out | apply below_alloc | apply pw_below_drewN | apply below_drew1) | exact HB.out)))); rintro e w20 ⟨v585, rfl, ho0, hb⟩; refine ⟨_, rfl, ?_⟩; have n0_ := Aside0.mk (Kd.R_elder' (by (with_reducible repeat (first | apply Kd.R_alloc | apply Kd.R_drewN | apply Kd.R_drew)); exact HO578.out) (Kd.R_base ho0) hb); have n1_ := Aside0.mk (Kd.R_elder' (by (with_reducible repeat (first | apply Kd.R_alloc | apply Kd.R_drewN | apply Kd.R_drew)); exact HO583.out) (Kd.R_base ho0) hb); have n2_ := Aside0.mk (Kd.R_lower (Kd.R_new' (Kd.R_new' (Kd.R_mono (ok' := fun k_ => True) ho0 (fun _ hk_ => trivial)) (Kd.R_lt (by (with_reducible repeat (first | apply Kd.R_alloc | apply Kd.R_drewN | apply Kd.R_drew)); exact HO578.out))) (Kd.R_lt (by (with_reducible repeat (first | apply Kd.R_alloc | apply Kd.R_drewN | apply Kd.R_drew)); exact HO583.out))) (below_size (by repeat (first | (with_reducible first | exact HB.out | apply below_alloc | apply pw_below_drewN | apply below_drew1) | exact HB.out)))); have n3_ := Aside0.mk (below_step (by repeat (first | (with_reducible first | exact HB.out | apply below_alloc | apply pw_below_drewN | apply below_drew1) | exact HB.out)) hb); clear HO578; clear HO583; clear HB; have HO578 := n0_; have HO583 := n1_; have HO586 := n2_; have HB := n3_; clear n0_ n1_ n2_ n3_; (try clear hb); (try clear hb2); (try clear hk); (try clear hi); (try clear ho0)))
    (try simp only [Act.put, List.setIfInBounds_toArray, List.set_cons_zero, List.set_cons_succ])
    go_cut [62] (fun v62 wc => ∃ (kq : Nat) (x62_16 : Bool), v62 = .bool x62_16 ∧ Aside0 (barrowlaw01_SpanChanges.j1 kq l0 a1 t580 t581 x62_16 = some r) ∧ Aside0 (kq ≤ kj3) ∧ Aside0 (Kd.R k26 26 wc w.heap.size (fun _ => True) v582 t580) ∧ Aside0 (Below w.heap.size w wc))
    case first =>
     have H := HC17.out
     clear HC17
     by_cases c21 : t587 = t579
     ·rw [if_pos c21] at H
      have c21b0 : (t587 == t579) = true := beq_iff_eq.mpr c21
      have c21b1 : (t587 != t579) = false := bne_eq_false_iff_eq.mpr c21
      clear c21
      (first | rw [c21b0] | (simp only [i64_w, i32_w]; rw [c21b0]) | skip)
      replace H := Option.bind_eq_some_iff.mp H
      obtain ⟨t588, A220, H⟩ := H
      replace H : (barrowlaw01_SpanChanges.j1 kj3 l0 a1 t580 t581 (!t588)) = some r := H
      have A22 := Aside0.mk A220
      clear A220
      have H' := Aside0.mk H
      clear H
      obtain ⟨Ao23, co23, eo23⟩ := Kd.R_slice HO586.out
      subst eo23
      obtain ⟨Ao24, co24, eo24⟩ := Kd.R_slice HO578.out
      subst eo24
      go_wp2_with (first | (go_at_call 19; (with_reducible refine (barrowref01_Equal.calls kj3 _ _ t584 _ _ t576 t588 _ ?side1 ?side2 ?side3 ?side4 A22.out).mono ?_); (case side1 => repeat (first | exact (Kd.R_reads' HO586.out).2.2 | (with_reducible refine Kd.C_alloc ?_ _) | (with_reducible refine Kd.C_drewN ?_ _) | (with_reducible refine Kd.C_drew ?_))); (case side2 => exact (Kd.R_reads' HO586.out).2.1); (case side3 => repeat (first | exact (Kd.R_reads' HO578.out).2.2 | (with_reducible refine Kd.C_alloc ?_ _) | (with_reducible refine Kd.C_drewN ?_ _) | (with_reducible refine Kd.C_drew ?_))); (case side4 => exact (Kd.R_reads' HO578.out).2.1); rintro e w' ⟨rfl, ⟨nd, rfl⟩⟩))
      go_meet
      case rel => exact ⟨_, (!t588), (by first | rfl | (simp; done) | (simp [*]; done)), H', ⟨by have := HJ3.out; first | omega | exact Nat.le_refl _⟩, ⟨by (with_reducible repeat (first | apply Kd.R_alloc | apply Kd.R_drewN | apply Kd.R_drew)); exact Kd.R_mono HO583.out (fun _ hk => trivial)⟩, ⟨by repeat (first | (with_reducible first | exact HB.out | apply below_alloc | apply pw_below_drewN | apply below_drew1) | exact HB.out)⟩⟩
     ·rw [if_neg c21] at H
      have c21b0 : (t587 == t579) = false := beq_eq_false_iff_ne.mpr c21
      have c21b1 : (t587 != t579) = true := bne_iff_ne.mpr c21
      (first | rw [c21b0] | (simp only [i64_w, i32_w]; rw [c21b0]) | skip)
      have H' := Aside0.mk H
      clear H
      go_wp2
      go_meet
      case rel => exact ⟨_, (true), (by first | rfl | (simp; done) | (simp [*]; done)), H', ⟨by have := HJ3.out; first | omega | exact Nat.le_refl _⟩, ⟨by (with_reducible repeat (first | apply Kd.R_alloc | apply Kd.R_drewN | apply Kd.R_drew)); exact Kd.R_mono HO583.out (fun _ hk => trivial)⟩, ⟨by repeat (first | (with_reducible first | exact HB.out | apply below_alloc | apply pw_below_drewN | apply below_drew1) | exact HB.out)⟩⟩
    case rest =>
     clear HC17
     try clear c1
     try clear c2
     try clear p2
     try clear c4
     try clear c5
     try clear p5
     try clear q5
     try clear hx5
     try clear qi5
     try clear c6
     try clear c6b0
     try clear c6b1
     try clear c7
     try clear c7b0
     try clear c7b1
     try clear c8
     try clear c8b0
     try clear c8b1
     try clear c9
     try clear c9b0
     try clear c9b1
     try clear c10
     try clear c13
     try clear c21
     try clear c21b0
     try clear c21b1
     try clear hx574_0
     try clear hx574_1
     try clear hx575_0
     try clear hx575_1
     try clear p2
     try clear p5
     try clear p574
     try clear p575
     try clear q5
     try clear q574
     try clear q575
     obtain ⟨kq, x62_16, rfl, HA, HJ16, HO_9, HB⟩ := hcut
     cases kq with
     | zero => exact absurd HA.out (by simp [barrowlaw01_SpanChanges.j1])
     | succ kj16 =>
      have H := HA.out
      clear HA
      simp only [barrowlaw01_SpanChanges.j1] at H
      by_cases c25 : x62_16 = true
      ·subst c25
       have H1 : (some false) = some r := by rw [if_pos rfl] at H; exact H
       clear H
       have H := H1
       clear H1
       obtain rfl := Option.some.inj H
       go_wp2
       go_ret
       exact ⟨by first | rfl | (simp [errW_none, errW_some] <;> rfl) | (simp [*, errW_none, errW_some] <;> rfl), by repeat (first | (with_reducible first | exact HB.out | apply below_alloc | apply pw_below_drewN | apply below_drew1) | exact HB.out)⟩
      ·replace c25 := Bool.eq_false_iff.mpr c25
       subst c25
       have H1 : ((span_Drop.f kj16 l0 a1).bind fun bt589 => (if bt589.2 = t581 then ((barrowref01_Equal.f kj16 bt589.1 t580).bind fun t593 => (some t593)) else (some false))) = some r := by rw [if_neg (show ¬ (false = true) by decide)] at H; exact H
       clear H
       have H := H1
       clear H1
       replace H := Option.bind_eq_some_iff.mp H
       obtain ⟨⟨t589, t590⟩, A260, H⟩ := H
       replace H : (if t590 = t581 then ((barrowref01_Equal.f kj16 t589 t580).bind fun t593 => (some t593)) else (some false)) = some r := H
       have A26 := Aside0.mk A260
       clear A260
       by_cases c27 : t590 = t581
       ·rw [if_pos c27] at H
        have c27b0 : (t590 == t581) = true := beq_iff_eq.mpr c27
        have c27b1 : (t590 != t581) = false := bne_eq_false_iff_eq.mpr c27
        clear c27
        replace H := Option.bind_eq_some_iff.mp H
        obtain ⟨t593, A280, H⟩ := H
        replace H : (some t593) = some r := H
        have A28 := Aside0.mk A280
        clear A280
        obtain rfl := Option.some.inj H
        go_wp2_with (first | ((with_reducible refine gate_callee (f := 52) rfl ?_); refine goesL_ (some 66) rfl rfl Try.func52 (by kernel_rfl) rfl #[.slice A0 l0.length c0, .int .i64 a1] rfl (by (try simp only [List.map_toArray, List.map_cons, List.map_nil]); first | done | rfl | (simp only [List.length_drop, List.length_take]; rfl)) ?_; (with_reducible refine (span_Drop.calls kj16 _ _ l0 a1 t589 t590 _ ?side1 ?side2 A26.out).mono ?_); (case side1 => repeat (first | exact (Kd.C_below HR0.out HB.out) | (with_reducible refine Kd.C_alloc ?_ _) | (with_reducible refine Kd.C_drewN ?_ _) | (with_reducible refine Kd.C_drew ?_))); (case side2 => exact HC0.out); rintro e w29 ⟨v591, rfl, ho0, hb⟩; refine ⟨_, rfl, ?_⟩; have n0_ := Aside0.mk (Kd.R_elder' (by (with_reducible repeat (first | apply Kd.R_alloc | apply Kd.R_drewN | apply Kd.R_drew)); exact HO_9.out) (Kd.R_base ho0) hb); have n1_ := Aside0.mk (Kd.R_lower (Kd.R_new' ho0 (Kd.R_lt (by (with_reducible repeat (first | apply Kd.R_alloc | apply Kd.R_drewN | apply Kd.R_drew)); exact HO_9.out))) (below_size (by repeat (first | (with_reducible first | exact HB.out | apply below_alloc | apply pw_below_drewN | apply below_drew1) | exact HB.out)))); have n2_ := Aside0.mk (below_step (by repeat (first | (with_reducible first | exact HB.out | apply below_alloc | apply pw_below_drewN | apply below_drew1) | exact HB.out)) hb); clear HO_9; clear HB; have HO_9 := n0_; have HO592 := n1_; have HB := n2_; clear n0_ n1_ n2_; (try clear hb); (try clear hb2); (try clear hk); (try clear hi); (try clear ho0); obtain ⟨Ao30, co30, eo30⟩ := Kd.R_slice HO592.out; subst eo30; obtain ⟨Ao31, co31, eo31⟩ := Kd.R_slice HO_9.out; subst eo31) | (go_at_call 19; (with_reducible refine (barrowref01_Equal.calls kj16 _ _ t589 _ _ t580 t593 _ ?side1 ?side2 ?side3 ?side4 A28.out).mono ?_); (case side1 => repeat (first | exact (Kd.R_reads' HO592.out).2.2 | (with_reducible refine Kd.C_alloc ?_ _) | (with_reducible refine Kd.C_drewN ?_ _) | (with_reducible refine Kd.C_drew ?_))); (case side2 => exact (Kd.R_reads' HO592.out).2.1); (case side3 => repeat (first | exact (Kd.R_reads' HO_9.out).2.2 | (with_reducible refine Kd.C_alloc ?_ _) | (with_reducible refine Kd.C_drewN ?_ _) | (with_reducible refine Kd.C_drew ?_))); (case side4 => exact (Kd.R_reads' HO_9.out).2.1); rintro e w' ⟨rfl, ⟨nd, rfl⟩⟩))
        go_ret
        exact ⟨by first | rfl | (simp [errW_none, errW_some] <;> rfl) | (simp [*, errW_none, errW_some] <;> rfl), by repeat (first | (with_reducible first | exact HB.out | apply below_alloc | apply pw_below_drewN | apply below_drew1) | exact HB.out)⟩
       ·rw [if_neg c27] at H
        have c27b0 : (t590 == t581) = false := beq_eq_false_iff_ne.mpr c27
        have c27b1 : (t590 != t581) = true := bne_iff_ne.mpr c27
        obtain rfl := Option.some.inj H
        go_wp2_with (first | ((with_reducible refine gate_callee (f := 52) rfl ?_); refine goesL_ (some 66) rfl rfl Try.func52 (by kernel_rfl) rfl #[.slice A0 l0.length c0, .int .i64 a1] rfl (by (try simp only [List.map_toArray, List.map_cons, List.map_nil]); first | done | rfl | (simp only [List.length_drop, List.length_take]; rfl)) ?_; (with_reducible refine (span_Drop.calls kj16 _ _ l0 a1 t589 t590 _ ?side1 ?side2 A26.out).mono ?_); (case side1 => repeat (first | exact (Kd.C_below HR0.out HB.out) | (with_reducible refine Kd.C_alloc ?_ _) | (with_reducible refine Kd.C_drewN ?_ _) | (with_reducible refine Kd.C_drew ?_))); (case side2 => exact HC0.out); rintro e w32 ⟨v591, rfl, ho0, hb⟩; refine ⟨_, rfl, ?_⟩; have n0_ := Aside0.mk (Kd.R_elder' (by (with_reducible repeat (first | apply Kd.R_alloc | apply Kd.R_drewN | apply Kd.R_drew)); exact HO_9.out) (Kd.R_base ho0) hb); have n1_ := Aside0.mk (Kd.R_lower (Kd.R_new' ho0 (Kd.R_lt (by (with_reducible repeat (first | apply Kd.R_alloc | apply Kd.R_drewN | apply Kd.R_drew)); exact HO_9.out))) (below_size (by repeat (first | (with_reducible first | exact HB.out | apply below_alloc | apply pw_below_drewN | apply below_drew1) | exact HB.out)))); have n2_ := Aside0.mk (below_step (by repeat (first | (with_reducible first | exact HB.out | apply below_alloc | apply pw_below_drewN | apply below_drew1) | exact HB.out)) hb); clear HO_9; clear HB; have HO_9 := n0_; have HO592 := n1_; have HB := n2_; clear n0_ n1_ n2_; (try clear hb); (try clear hb2); (try clear hk); (try clear hi); (try clear ho0)))
        go_ret
        exact ⟨by first | rfl | (simp [errW_none, errW_some] <;> rfl) | (simp [*, errW_none, errW_some] <;> rfl), by repeat (first | (with_reducible first | exact HB.out | apply below_alloc | apply pw_below_drewN | apply below_drew1) | exact HB.out)⟩

end Go.Proofs.Yteldhpneegccjaa.G
