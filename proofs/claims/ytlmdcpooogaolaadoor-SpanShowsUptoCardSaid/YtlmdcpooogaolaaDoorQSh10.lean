import Derived.Test.YtlmdcpooogaolaaDoorQSh7
import Derived.Test.YtlmdcpooogaolaaDoorQSh9
import Derived.Test.YtlmdcpooogaolaaDoorQSh8
-- PRINTED by print.py (a twelfth state) out of the translation. Not trusted: Lean checks it.
namespace Go.Proofs.YtlmdcpooogaolaaDoor.G
open Go.RowKit Go.Proofs.YtlmdcpooogaolaaDoorW.PrintWords Go.Proofs.YtlmdcpooogaolaaDoorW.PrintLast Go.Proofs.YtlmdcpooogaolaaDoorW.PrintMore
attribute [local go_sem] max2_int min2_int max_two min_two max_three min_three max_four min_four   -- for this text's walks alone
set_option linter.unusedVariables false
set_option linter.unusedSimpArgs false

/-! ### barrowref01_Show: function 10 -/
mutual
def barrowref01_Show.l0 : Nat → List (S32) → List Int → Int → Option (ByteArray)
 | 0, _, _, _ => none
 | k + 1, x3, x4, x5 => if x5 < (x3.length : Int) then (if x5 > 0 then (if x4.length < 140737488355328 then (barrowref01_Show.j1 k x3 (x4 ++ [44]) x5) else (none)) else (barrowref01_Show.j1 k x3 x4 x5)) else (some (strOfNums x4))
def barrowref01_Show.j1 : Nat → List (S32) → List Int → Int → Option (ByteArray)
 | 0, _, _, _ => none
 | k + 1, x3, x4, x5 => if 0 ≤ x5 then (if x5 < (x3.length : Int) then ((barrowref01_Digits.f k x4 ((rd_T32 x3 x5).f0)).bind fun t238 => (if ((rd_T32 x3 x5).f1) > ((rd_T32 x3 x5).f0) then ((some (([46, 46] : List Int) : List Int)).bind fun y243 => (if t238.length + y243.length < 140737488355328 then ((barrowref01_Digits.f k (t238 ++ y243) ((rd_T32 x3 x5).f1)).bind fun t250 => (barrowref01_Show.l0 k x3 t250 (wrap64 (x5 + 1)))) else (none))) else (barrowref01_Show.l0 k x3 t238 (wrap64 (x5 + 1))))) else (none)) else (none)
end
def barrowref01_Show.f (k : Nat) (l0 : List (S32)) : Option (ByteArray) := (barrowref01_Norm.f k l0).bind fun t231 => (if (t231.length : Int) = 0 then (some (⟨#[110, 111, 110, 101]⟩ : ByteArray)) else (barrowref01_Show.l0 k t231 ([] : List Int) 0))
theorem barrowref01_Show.mono_l : ∀ k, (∀ y0 y1 y2, LeO (barrowref01_Show.l0 k y0 y1 y2) (barrowref01_Show.l0 (k + 1) y0 y1 y2)) ∧ (∀ y0 y1 y2, LeO (barrowref01_Show.j1 k y0 y1 y2) (barrowref01_Show.j1 (k + 1) y0 y1 y2))
 | 0 => ⟨fun _ _ _ r h => by simp [barrowref01_Show.l0] at h, fun _ _ _ r h => by simp [barrowref01_Show.j1] at h⟩
 | k + 1 => by
  obtain ⟨ih0, ih1⟩ := barrowref01_Show.mono_l k
  refine ⟨?_, ?_⟩
  ·intro y0 y1 y2
   unfold barrowref01_Show.l0
   repeat' first
   | (with_reducible exact ih0 _ _ _)
   | (with_reducible exact ih1 _ _ _)
   | (with_reducible exact barrowref01_Digits.mono _ _ _)
   | (with_reducible exact barrowref01_Norm.mono _ _)
   | (with_reducible exact LeO.refl _)
   | (with_reducible exact LeO.none _)
   | (with_reducible refine LeO.ite ?_ ?_)
   | (with_reducible refine LeO.bind ?_ (fun _ => ?_))
   | exact ih0 _ _ _
   | exact ih1 _ _ _
   | exact barrowref01_Digits.mono _ _ _
   | exact barrowref01_Norm.mono _ _
   | exact LeO.none _
   | refine LeO.ite ?_ ?_
   | refine LeO.bind ?_ (fun _ => ?_)
  ·intro y0 y1 y2
   unfold barrowref01_Show.j1
   repeat' first
   | (with_reducible exact ih0 _ _ _)
   | (with_reducible exact ih1 _ _ _)
   | (with_reducible exact barrowref01_Digits.mono _ _ _)
   | (with_reducible exact barrowref01_Norm.mono _ _)
   | (with_reducible exact LeO.refl _)
   | (with_reducible exact LeO.none _)
   | (with_reducible refine LeO.ite ?_ ?_)
   | (with_reducible refine LeO.bind ?_ (fun _ => ?_))
   | exact ih0 _ _ _
   | exact ih1 _ _ _
   | exact barrowref01_Digits.mono _ _ _
   | exact barrowref01_Norm.mono _ _
   | exact LeO.none _
   | refine LeO.ite ?_ ?_
   | refine LeO.bind ?_ (fun _ => ?_)
theorem barrowref01_Show.mono : ∀ a0 k, LeO (barrowref01_Show.f k a0) (barrowref01_Show.f (k + 1) a0) := by
 intro a0 k
 obtain ⟨ih0, ih1⟩ := barrowref01_Show.mono_l k
 unfold barrowref01_Show.f
 repeat' first
   | (with_reducible exact ih0 _ _ _)
   | (with_reducible exact ih1 _ _ _)
   | (with_reducible exact barrowref01_Digits.mono _ _ _)
   | (with_reducible exact barrowref01_Norm.mono _ _)
   | (with_reducible exact LeO.refl _)
   | (with_reducible exact LeO.none _)
   | (with_reducible refine LeO.ite ?_ ?_)
   | (with_reducible refine LeO.bind ?_ (fun _ => ?_))
   | exact ih0 _ _ _
   | exact ih1 _ _ _
   | exact barrowref01_Digits.mono _ _ _
   | exact barrowref01_Norm.mono _ _
   | exact LeO.none _
   | refine LeO.ite ?_ ?_
   | refine LeO.bind ?_ (fun _ => ?_)
set_option maxHeartbeats 8000000 in
set_option maxRecDepth 100000 in
theorem barrowref01_Show.calls (k : Nat) (A0 : Option Addr) (c0 : Nat) (l0 : List (S32)) (r : ByteArray) (w : World) (hr0 : Kd.C k32 w A0 l0.length l0) (hc0 : l0.length ≤ c0) (h : barrowref01_Show.f k l0 = some r) :
  Calls Tryd.prog 10 #[.slice A0 l0.length c0] w fun e w' => e = .returned (.string r) ∧ Below w.heap.size w w' := by
 have HR0 := Aside0.mk hr0
 have HC0 := Aside0.mk hc0
 clear hr0 hc0
 have HB := Aside0.mk (Below.refl w.heap.size w)
 have H : ((barrowref01_Norm.f k l0).bind fun t231 => (if (t231.length : Int) = 0 then (some (⟨#[110, 111, 110, 101]⟩ : ByteArray)) else (barrowref01_Show.l0 k t231 ([] : List Int) 0))) = some r := h
 clear h
 replace H := Option.bind_eq_some_iff.mp H
 obtain ⟨t231, A20, H⟩ := H
 replace H : (if (t231.length : Int) = 0 then (some (⟨#[110, 111, 110, 101]⟩ : ByteArray)) else (barrowref01_Show.l0 k t231 ([] : List Int) 0)) = some r := H
 have A2 := Aside0.mk A20
 clear A20
 by_cases c3 : (t231.length : Int) = 0
 ·rw [if_pos c3] at H
  have c3b0 : ((t231.length : Int) == 0) = true := beq_iff_eq.mpr c3
  have c3b1 : ((t231.length : Int) != 0) = false := bne_eq_false_iff_eq.mpr c3
  clear c3
  obtain rfl := Option.some.inj H
  go_enter Tryd.func10, Tryd.ntmps10
  go_wp2_with (first | (go_at_call 17; (with_reducible refine (barrowref01_Norm.calls k (fun k_ => k_ < w.heap.size) _ _ l0 t231 _ ?side1 A2.out).mono ?_); (case side1 => exact Kd.V_mk HC0.out (Kd.F_below (Kd.C_F k32_heap HR0.out) (by repeat (first | (with_reducible first | exact HB.out | apply below_alloc | apply pw_below_drewN | apply below_drew1) | exact HB.out)))); rintro e w4 ⟨v232, rfl, ho0, hb⟩; have n0_ := Aside0.mk (Kd.R_lower (Kd.R_mono (ok' := fun k_ => True) ho0 (fun _ hk_ => trivial)) (below_size (by repeat (first | (with_reducible first | exact HB.out | apply below_alloc | apply pw_below_drewN | apply below_drew1) | exact HB.out)))); have n1_ := Aside0.mk (below_step (by repeat (first | (with_reducible first | exact HB.out | apply below_alloc | apply pw_below_drewN | apply below_drew1) | exact HB.out)) hb); clear HB; have HO233 := n0_; have HB := n1_; clear n0_ n1_; (try clear hb); (try clear hb2); (try clear hk); (try clear hi); (try clear ho0); obtain ⟨Ao5, co5, eo5⟩ := Kd.R_slice HO233.out; subst eo5))
  repeat (go_quiet (first | (go_at_call 17; (with_reducible refine (barrowref01_Norm.calls k (fun k_ => k_ < w.heap.size) _ _ l0 t231 _ ?side1 A2.out).mono ?_); (case side1 => exact Kd.V_mk HC0.out (Kd.F_below (Kd.C_F k32_heap HR0.out) (by repeat (first | (with_reducible first | exact HB.out | apply below_alloc | apply pw_below_drewN | apply below_drew1) | exact HB.out)))); rintro e w4 ⟨v232, rfl, ho0, hb⟩; have n0_ := Aside0.mk (Kd.R_lower (Kd.R_mono (ok' := fun k_ => True) ho0 (fun _ hk_ => trivial)) (below_size (by repeat (first | (with_reducible first | exact HB.out | apply below_alloc | apply pw_below_drewN | apply below_drew1) | exact HB.out)))); have n1_ := Aside0.mk (below_step (by repeat (first | (with_reducible first | exact HB.out | apply below_alloc | apply pw_below_drewN | apply below_drew1) | exact HB.out)) hb); clear HB; have HO233 := n0_; have HB := n1_; clear n0_ n1_; (try clear hb); (try clear hb2); (try clear hk); (try clear hi); (try clear ho0); obtain ⟨Ao5, co5, eo5⟩ := Kd.R_slice HO233.out; subst eo5)); try go_wp2_with (first | (go_at_call 17; (with_reducible refine (barrowref01_Norm.calls k (fun k_ => k_ < w.heap.size) _ _ l0 t231 _ ?side1 A2.out).mono ?_); (case side1 => exact Kd.V_mk HC0.out (Kd.F_below (Kd.C_F k32_heap HR0.out) (by repeat (first | (with_reducible first | exact HB.out | apply below_alloc | apply pw_below_drewN | apply below_drew1) | exact HB.out)))); rintro e w4 ⟨v232, rfl, ho0, hb⟩; have n0_ := Aside0.mk (Kd.R_lower (Kd.R_mono (ok' := fun k_ => True) ho0 (fun _ hk_ => trivial)) (below_size (by repeat (first | (with_reducible first | exact HB.out | apply below_alloc | apply pw_below_drewN | apply below_drew1) | exact HB.out)))); have n1_ := Aside0.mk (below_step (by repeat (first | (with_reducible first | exact HB.out | apply below_alloc | apply pw_below_drewN | apply below_drew1) | exact HB.out)) hb); clear HB; have HO233 := n0_; have HB := n1_; clear n0_ n1_; (try clear hb); (try clear hb2); (try clear hk); (try clear hi); (try clear ho0); obtain ⟨Ao5, co5, eo5⟩ := Kd.R_slice HO233.out; subst eo5)))
  go_ret
  exact ⟨by first | rfl | (simp [errW_none, errW_some] <;> rfl) | (simp [*, errW_none, errW_some] <;> rfl), by repeat (first | (with_reducible first | exact HB.out | apply below_alloc | apply pw_below_drewN | apply below_drew1) | exact HB.out)⟩
 ·rw [if_neg c3] at H
  have c3b0 : ((t231.length : Int) == 0) = false := beq_eq_false_iff_ne.mpr c3
  have c3b1 : ((t231.length : Int) != 0) = true := bne_iff_ne.mpr c3
  have c3b2 : ¬ (t231 = []) := fun h_ => c3 (by rw [h_]; rfl)
  have H' := Aside0.mk H
  clear H
  go_enter Tryd.func10, Tryd.ntmps10
  go_wp2_with (first | (go_at_call 17; (with_reducible refine (barrowref01_Norm.calls k (fun k_ => k_ < w.heap.size) _ _ l0 t231 _ ?side1 A2.out).mono ?_); (case side1 => exact Kd.V_mk HC0.out (Kd.F_below (Kd.C_F k32_heap HR0.out) (by repeat (first | (with_reducible first | exact HB.out | apply below_alloc | apply pw_below_drewN | apply below_drew1) | exact HB.out)))); rintro e w6 ⟨v232, rfl, ho0, hb⟩; have n0_ := Aside0.mk (Kd.R_lower (Kd.R_mono (ok' := fun k_ => True) ho0 (fun _ hk_ => trivial)) (below_size (by repeat (first | (with_reducible first | exact HB.out | apply below_alloc | apply pw_below_drewN | apply below_drew1) | exact HB.out)))); have n1_ := Aside0.mk (below_step (by repeat (first | (with_reducible first | exact HB.out | apply below_alloc | apply pw_below_drewN | apply below_drew1) | exact HB.out)) hb); clear HB; have HO233 := n0_; have HB := n1_; clear n0_ n1_; (try clear hb); (try clear hb2); (try clear hk); (try clear hi); (try clear ho0); obtain ⟨Ao7, co7, eo7⟩ := Kd.R_slice HO233.out; subst eo7))
  repeat (go_quiet (first | (go_at_call 17; (with_reducible refine (barrowref01_Norm.calls k (fun k_ => k_ < w.heap.size) _ _ l0 t231 _ ?side1 A2.out).mono ?_); (case side1 => exact Kd.V_mk HC0.out (Kd.F_below (Kd.C_F k32_heap HR0.out) (by repeat (first | (with_reducible first | exact HB.out | apply below_alloc | apply pw_below_drewN | apply below_drew1) | exact HB.out)))); rintro e w6 ⟨v232, rfl, ho0, hb⟩; have n0_ := Aside0.mk (Kd.R_lower (Kd.R_mono (ok' := fun k_ => True) ho0 (fun _ hk_ => trivial)) (below_size (by repeat (first | (with_reducible first | exact HB.out | apply below_alloc | apply pw_below_drewN | apply below_drew1) | exact HB.out)))); have n1_ := Aside0.mk (below_step (by repeat (first | (with_reducible first | exact HB.out | apply below_alloc | apply pw_below_drewN | apply below_drew1) | exact HB.out)) hb); clear HB; have HO233 := n0_; have HB := n1_; clear n0_ n1_; (try clear hb); (try clear hb2); (try clear hk); (try clear hi); (try clear ho0); obtain ⟨Ao7, co7, eo7⟩ := Kd.R_slice HO233.out; subst eo7)); try go_wp2_with (first | (go_at_call 17; (with_reducible refine (barrowref01_Norm.calls k (fun k_ => k_ < w.heap.size) _ _ l0 t231 _ ?side1 A2.out).mono ?_); (case side1 => exact Kd.V_mk HC0.out (Kd.F_below (Kd.C_F k32_heap HR0.out) (by repeat (first | (with_reducible first | exact HB.out | apply below_alloc | apply pw_below_drewN | apply below_drew1) | exact HB.out)))); rintro e w6 ⟨v232, rfl, ho0, hb⟩; have n0_ := Aside0.mk (Kd.R_lower (Kd.R_mono (ok' := fun k_ => True) ho0 (fun _ hk_ => trivial)) (below_size (by repeat (first | (with_reducible first | exact HB.out | apply below_alloc | apply pw_below_drewN | apply below_drew1) | exact HB.out)))); have n1_ := Aside0.mk (below_step (by repeat (first | (with_reducible first | exact HB.out | apply below_alloc | apply pw_below_drewN | apply below_drew1) | exact HB.out)) hb); clear HB; have HO233 := n0_; have HB := n1_; clear n0_ n1_; (try clear hb); (try clear hb2); (try clear hk); (try clear hi); (try clear ho0); obtain ⟨Ao7, co7, eo7⟩ := Kd.R_slice HO233.out; subst eo7)))
  go_loopg [4, 5] k (fun kq v4 v5 w' => ∃ (x4_1 : List Int) (x5_1 : Int), v5 = .int .i64 x5_1 ∧ Aside0 (barrowref01_Show.l0 kq t231 x4_1 x5_1 = some r) ∧ Aside0 (kq ≤ k) ∧ Aside0 (Kd.R k32 32 w' w.heap.size (fun _ => True) (.slice Ao7 t231.length co7) t231) ∧ Aside0 (Kd.R (Kd.int .u8) 5 w' w.heap.size (fun _ => True) v4 x4_1) ∧ Aside0 (Below w.heap.size w w'))
  case atStart => exact ⟨(([] : List Int)), (0), (by first | rfl | (simp; done) | (simp [*]; done)), H', ⟨Nat.le_refl _⟩, ⟨by (with_reducible repeat (first | apply Kd.R_alloc | apply Kd.R_drewN | apply Kd.R_drew)); exact HO233.out⟩, ⟨by first | exact Kd.R_nil _ _ _ _ _ | exact Kd.N_nil _ _ _ _ _ | exact Kd.V_nil _ _ _ _ _ | exact Kd.Q_nil _ _ _ _ _ | exact Kd.S_nil _ _ _ _ _⟩, ⟨by repeat (first | (with_reducible first | exact HB.out | apply below_alloc | apply pw_below_drewN | apply below_drew1) | exact HB.out)⟩⟩
  case round =>
   clear H'
   try clear c1
   try clear p2
   try clear c3
   try clear c3b0
   try clear c3b1
   try clear c3b2
   obtain ⟨x4_1, x5_1, rfl, HA, HK1, HO_3, HO_4, HB⟩ := hrel
   cases gk with
   | zero => exact absurd HA.out (by simp [barrowref01_Show.l0])
   | succ k1 =>
    have H := HA.out
    clear HA
    simp only [barrowref01_Show.l0] at H
    by_cases c8 : x5_1 < (t231.length : Int)
    ·rw [if_pos c8] at H
     have c8b0 : decide (x5_1 < (t231.length : Int)) = true := decide_eq_true c8
     clear c8
     have HC9 := Aside0.mk H
     clear H
     go_upto_if 18 with (fail)
     repeat (go_quiet (fail); go_upto_if 18 with (fail))
     go_cut [4] (fun v4 wc => ∃ (kq : Nat) (x4_8 : List Int), Aside0 (barrowref01_Show.j1 kq t231 x4_8 x5_1 = some r) ∧ Aside0 (kq ≤ k1) ∧ Aside0 (Kd.R k32 32 wc w.heap.size (fun _ => True) (.slice Ao7 t231.length co7) t231) ∧ Aside0 (Kd.R (Kd.int .u8) 5 wc w.heap.size (fun _ => True) v4 x4_8) ∧ Aside0 (Below w.heap.size w wc))
     case first =>
      have H := HC9.out
      clear HC9
      by_cases c10 : x5_1 > 0
      ·rw [if_pos c10] at H
       have c10b0 : decide (0 < x5_1) = true := decide_eq_true c10
       clear c10
       (first | rw [c10b0] | (simp only [i64_w, i32_w]; rw [c10b0]) | skip)
       by_cases c11 : x4_1.length < 140737488355328
       ·rw [if_pos c11] at H
        have LMc11 := Aside0.mk c11
        clear c11
        obtain ⟨y234, hy234⟩ : ∃ y_ : List Int, y_ = (x4_1 ++ [44]) := ⟨_, rfl⟩
        replace H : (barrowref01_Show.j1 k1 t231 y234 x5_1) = some r := by first | (rw [hy234]; with_reducible exact H) | (have H2_ := (Option.bind_some _ _).symm.trans H; rw [hy234]; with_reducible exact H2_) | (have H2_ := (Option.bind_some _ _).symm.trans H; with_reducible exact H2_) | with_reducible exact H | (rw [hy234]; exact H) | exact H
        have Ny234 := Aside0.mk hy234
        clear hy234
        have H' := Aside0.mk H
        clear H
        go_wp2_with (first | ((with_reducible refine gate_builtin (b := .append) (xs := #[.tmp 19, .tmp 20]) rfl ?_); at_builtin; refine Kd.R_append (Kd.int .u8) (w0 := w) w.heap.size rfl (.tmp 19) (.tmp 20) 47 5 (.int .u8 0) 1 rfl Tryd.underlying47 info5 rfl (by decide) (by omega) u4 x4_1 44 [.int .u8 44] (fun _ => True) (fun _ => False) rfl rfl ?aP (fun _ hk => hk.elim) ?aF ?aO ?aB ?aS ?aL ?_; (case aP => exact rfl); (case aB => exact (by repeat (first | (with_reducible first | exact HB.out | apply below_alloc | apply pw_below_drewN | apply below_drew1) | exact HB.out))); (case aF => exact (fun _ _ => trivial)); (case aO => exact (by (with_reducible repeat (first | apply Kd.R_alloc | apply Kd.R_drewN | apply Kd.R_drew)); exact HO_4.out)); (case aS => exact (below_size (by repeat (first | (with_reducible first | exact HB.out | apply below_alloc | apply pw_below_drewN | apply below_drew1) | exact HB.out)))); (case aL => have := LMc11.out; omega); intro v235 w12 ho hb hg hat; rw [← Ny234.out] at ho; have n0_ := Aside0.mk (Kd.R_over' (by (with_reducible repeat (first | apply Kd.R_alloc | apply Kd.R_drewN | apply Kd.R_drew)); exact HO_3.out) (Kd.R_typed (by (with_reducible repeat (first | apply Kd.R_alloc | apply Kd.R_drewN | apply Kd.R_drew)); exact HO_4.out)) (by decide) hg); have n1_ := Aside0.mk (hb); have n2_ := Aside0.mk (ho); clear HO_3; clear HB; clear HO_4; have HO_3 := n0_; have HB := n1_; have HO236 := n2_; clear n0_ n1_ n2_; clear ho hb hg hat))
        repeat (go_quiet (first | ((with_reducible refine gate_builtin (b := .append) (xs := #[.tmp 19, .tmp 20]) rfl ?_); at_builtin; refine Kd.R_append (Kd.int .u8) (w0 := w) w.heap.size rfl (.tmp 19) (.tmp 20) 47 5 (.int .u8 0) 1 rfl Tryd.underlying47 info5 rfl (by decide) (by omega) u4 x4_1 44 [.int .u8 44] (fun _ => True) (fun _ => False) rfl rfl ?aP (fun _ hk => hk.elim) ?aF ?aO ?aB ?aS ?aL ?_; (case aP => exact rfl); (case aB => exact (by repeat (first | (with_reducible first | exact HB.out | apply below_alloc | apply pw_below_drewN | apply below_drew1) | exact HB.out))); (case aF => exact (fun _ _ => trivial)); (case aO => exact (by (with_reducible repeat (first | apply Kd.R_alloc | apply Kd.R_drewN | apply Kd.R_drew)); exact HO_4.out)); (case aS => exact (below_size (by repeat (first | (with_reducible first | exact HB.out | apply below_alloc | apply pw_below_drewN | apply below_drew1) | exact HB.out)))); (case aL => have := LMc11.out; omega); intro v235 w12 ho hb hg hat; rw [← Ny234.out] at ho; have n0_ := Aside0.mk (Kd.R_over' (by (with_reducible repeat (first | apply Kd.R_alloc | apply Kd.R_drewN | apply Kd.R_drew)); exact HO_3.out) (Kd.R_typed (by (with_reducible repeat (first | apply Kd.R_alloc | apply Kd.R_drewN | apply Kd.R_drew)); exact HO_4.out)) (by decide) hg); have n1_ := Aside0.mk (hb); have n2_ := Aside0.mk (ho); clear HO_3; clear HB; clear HO_4; have HO_3 := n0_; have HB := n1_; have HO236 := n2_; clear n0_ n1_ n2_; clear ho hb hg hat)); try go_wp2_with (first | ((with_reducible refine gate_builtin (b := .append) (xs := #[.tmp 19, .tmp 20]) rfl ?_); at_builtin; refine Kd.R_append (Kd.int .u8) (w0 := w) w.heap.size rfl (.tmp 19) (.tmp 20) 47 5 (.int .u8 0) 1 rfl Tryd.underlying47 info5 rfl (by decide) (by omega) u4 x4_1 44 [.int .u8 44] (fun _ => True) (fun _ => False) rfl rfl ?aP (fun _ hk => hk.elim) ?aF ?aO ?aB ?aS ?aL ?_; (case aP => exact rfl); (case aB => exact (by repeat (first | (with_reducible first | exact HB.out | apply below_alloc | apply pw_below_drewN | apply below_drew1) | exact HB.out))); (case aF => exact (fun _ _ => trivial)); (case aO => exact (by (with_reducible repeat (first | apply Kd.R_alloc | apply Kd.R_drewN | apply Kd.R_drew)); exact HO_4.out)); (case aS => exact (below_size (by repeat (first | (with_reducible first | exact HB.out | apply below_alloc | apply pw_below_drewN | apply below_drew1) | exact HB.out)))); (case aL => have := LMc11.out; omega); intro v235 w12 ho hb hg hat; rw [← Ny234.out] at ho; have n0_ := Aside0.mk (Kd.R_over' (by (with_reducible repeat (first | apply Kd.R_alloc | apply Kd.R_drewN | apply Kd.R_drew)); exact HO_3.out) (Kd.R_typed (by (with_reducible repeat (first | apply Kd.R_alloc | apply Kd.R_drewN | apply Kd.R_drew)); exact HO_4.out)) (by decide) hg); have n1_ := Aside0.mk (hb); have n2_ := Aside0.mk (ho); clear HO_3; clear HB; clear HO_4; have HO_3 := n0_; have HB := n1_; have HO236 := n2_; clear n0_ n1_ n2_; clear ho hb hg hat)))
        go_meet
        case rel => exact ⟨_, (y234), H', ⟨by have := HK1.out; first | omega | exact Nat.le_refl _⟩, ⟨by (with_reducible repeat (first | apply Kd.R_alloc | apply Kd.R_drewN | apply Kd.R_drew)); exact HO_3.out⟩, ⟨by (with_reducible repeat (first | apply Kd.R_alloc | apply Kd.R_drewN | apply Kd.R_drew)); exact HO236.out⟩, ⟨by repeat (first | (with_reducible first | exact HB.out | apply below_alloc | apply pw_below_drewN | apply below_drew1) | exact HB.out)⟩⟩
       ·rw [if_neg c11] at H
        exact absurd H (by simp)
      ·rw [if_neg c10] at H
       have c10b0 : decide (0 < x5_1) = false := decide_eq_false c10
       clear c10
       (first | rw [c10b0] | (simp only [i64_w, i32_w]; rw [c10b0]) | skip)
       have H' := Aside0.mk H
       clear H
       go_wp2
       repeat (go_quiet (fail); try go_wp2)
       go_meet
       case rel => exact ⟨_, (x4_1), H', ⟨by have := HK1.out; first | omega | exact Nat.le_refl _⟩, ⟨by (with_reducible repeat (first | apply Kd.R_alloc | apply Kd.R_drewN | apply Kd.R_drew)); exact HO_3.out⟩, ⟨by (with_reducible repeat (first | apply Kd.R_alloc | apply Kd.R_drewN | apply Kd.R_drew)); exact HO_4.out⟩, ⟨by repeat (first | (with_reducible first | exact HB.out | apply below_alloc | apply pw_below_drewN | apply below_drew1) | exact HB.out)⟩⟩
     case rest =>
      clear HC9
      try clear c1
      try clear p2
      try clear c3
      try clear c3b0
      try clear c3b1
      try clear c3b2
      try clear c8
      try clear c8b0
      try clear c10
      try clear c10b0
      try clear c11
      try clear p2
      obtain ⟨kq, x4_8, HA, HJ8, HO_3, HO_4, HB⟩ := hcut
      cases kq with
      | zero => exact absurd HA.out (by simp [barrowref01_Show.j1])
      | succ kj8 =>
       have H := HA.out
       clear HA
       simp only [barrowref01_Show.j1] at H
       by_cases c13 : 0 ≤ x5_1
       ·rw [if_pos c13] at H
        have c13b0 : decide (0 ≤ x5_1) = true := decide_eq_true c13
        clear c13
        by_cases c14 : x5_1 < (t231.length : Int)
        ·rw [if_pos c14] at H
         have c14b0 : decide (x5_1 < (t231.length : Int)) = true := decide_eq_true c14
         clear c14
         replace H := Option.bind_eq_some_iff.mp H
         obtain ⟨t238, A150, H⟩ := H
         replace H : (if ((rd_T32 t231 x5_1).f1) > ((rd_T32 t231 x5_1).f0) then ((some (([46, 46] : List Int) : List Int)).bind fun y243 => (if t238.length + y243.length < 140737488355328 then ((barrowref01_Digits.f kj8 (t238 ++ y243) ((rd_T32 t231 x5_1).f1)).bind fun t250 => (barrowref01_Show.l0 kj8 t231 t250 (wrap64 (x5_1 + 1)))) else (none))) else (barrowref01_Show.l0 kj8 t231 t238 (wrap64 (x5_1 + 1)))) = some r := H
         have A15 := Aside0.mk A150
         clear A150
         by_cases c16 : ((rd_T32 t231 x5_1).f1) > ((rd_T32 t231 x5_1).f0)
         ·rw [if_pos c16] at H
          have c16b0 : decide (((rd_T32 t231 x5_1).f0) < ((rd_T32 t231 x5_1).f1)) = true := decide_eq_true c16
          clear c16
          obtain ⟨y243, hy243⟩ : ∃ y_ : List Int, y_ = (([46, 46] : List Int)) := ⟨_, rfl⟩
          replace H : (if t238.length + y243.length < 140737488355328 then ((barrowref01_Digits.f kj8 (t238 ++ y243) ((rd_T32 t231 x5_1).f1)).bind fun t250 => (barrowref01_Show.l0 kj8 t231 t250 (wrap64 (x5_1 + 1)))) else (none)) = some r := by first | (rw [hy243]; with_reducible exact H) | (have H2_ := (Option.bind_some _ _).symm.trans H; rw [hy243]; with_reducible exact H2_) | (have H2_ := (Option.bind_some _ _).symm.trans H; with_reducible exact H2_) | with_reducible exact H | (rw [hy243]; exact H) | exact H
          have Ny243 := Aside0.mk hy243
          clear hy243
          by_cases c17 : t238.length + y243.length < 140737488355328
          ·rw [if_pos c17] at H
           have LMc17 := Aside0.mk c17
           clear c17
           obtain ⟨y246, hy246⟩ : ∃ y_ : List Int, y_ = (t238 ++ y243) := ⟨_, rfl⟩
           replace H : ((barrowref01_Digits.f kj8 y246 ((rd_T32 t231 x5_1).f1)).bind fun t250 => (barrowref01_Show.l0 kj8 t231 t250 (wrap64 (x5_1 + 1)))) = some r := by first | (rw [hy246]; with_reducible exact H) | (have H2_ := (Option.bind_some _ _).symm.trans H; rw [hy246]; with_reducible exact H2_) | (have H2_ := (Option.bind_some _ _).symm.trans H; with_reducible exact H2_) | with_reducible exact H | (rw [hy246]; exact H) | exact H
           have Ny246 := Aside0.mk hy246
           clear hy246
           replace H := Option.bind_eq_some_iff.mp H
           obtain ⟨t250, A180, H⟩ := H
           replace H : (barrowref01_Show.l0 kj8 t231 t250 (wrap64 (x5_1 + 1))) = some r := H
           have A18 := Aside0.mk A180
           clear A180
           have H' := Aside0.mk H
           clear H
           have p237 : 0 ≤ (x5_1 : Int) := of_decide_eq_true (by first | (with_reducible assumption) | assumption)
           have q237 : x5_1 < (t231.length : Int) := of_decide_eq_true (by first | (with_reducible assumption) | assumption)
           obtain ⟨ad237, e237, hx237_0, hx237_1⟩ := at_T32 (Kd.R_reads' HO_3.out).2.2 x5_1 p237 q237
           cases e237
           replace p237 := eq_true p237
           replace q237 := eq_true q237
           obtain ⟨Ao19, co19, eo19⟩ := Kd.R_slice HO_4.out
           subst eo19
           go_wp2_with (first | (go_at_call 20; (with_reducible refine (barrowref01_Digits.calls kj8 (fun k_ => some k_ = (.slice Ao19 x4_8.length co19 : Value).ownBlock) (.slice Ao19 x4_8.length co19) x4_8 ((rd_T32 t231 x5_1).f0) t238 w _ ?side1 ?side2 A15.out).mono ?_); (case side1 => repeat (first | (with_reducible first | exact HB.out | apply below_alloc | apply pw_below_drewN | apply below_drew1) | exact HB.out)); (case side2 => exact Kd.R_tight rfl HO_4.out); rintro e w20 ⟨v239, rfl, ho0, hb, hkp⟩; have n0_ := Aside0.mk (Kd.R_mono (ok' := fun k_ => True) (Kd.R_keptB ((Kd.R_apart' HO_3.out (Kd.R_typed HO_4.out) (by decide))) hkp (fun k_ hk_ hs_ => (hk_.2) hs_)) (fun k_ hk_ => trivial)); have n1_ := Aside0.mk (Kd.R_mono (ok' := fun k_ => True) ho0 (fun k_ hk_ => trivial)); have n2_ := Aside0.mk (hb); clear HO_3; clear HB; clear HO_4; have HO_3 := n0_; have HO240 := n1_; have HB := n2_; clear n0_ n1_ n2_; (try clear hb); (try clear hkp); (try clear ho0); have p241 : 0 ≤ (x5_1 : Int) := of_decide_eq_true (by first | (with_reducible assumption) | assumption); have q241 : x5_1 < (t231.length : Int) := of_decide_eq_true (by first | (with_reducible assumption) | assumption); obtain ⟨ad241, e241, hx241_0, hx241_1⟩ := at_T32 (Kd.R_reads' HO_3.out).2.2 x5_1 p241 q241; obtain rfl : ad237 = ad241 := (by injection e241); replace p241 := eq_true p241; replace q241 := eq_true q241; have p242 : 0 ≤ (x5_1 : Int) := of_decide_eq_true (by first | (with_reducible assumption) | assumption); have q242 : x5_1 < (t231.length : Int) := of_decide_eq_true (by first | (with_reducible assumption) | assumption); obtain ⟨ad242, e242, hx242_0, hx242_1⟩ := at_T32 (Kd.R_reads' HO_3.out).2.2 x5_1 p242 q242; obtain rfl : ad237 = ad242 := (by injection e242); replace p242 := eq_true p242; replace q242 := eq_true q242) | ((with_reducible refine gate_dst (N := 41) rfl ?_); refine Kd.R_lit (Kd.int .u8) _ 5 ?hg (N := 41) ?hd (xs := ([46, 46] : List Int)) (inner := [.int .u8 46, .int .u8 46]) (ok := fun _ => True) (okp := fun _ => True) ?hr ?hp (fun _ hk => hk) trivial (Below.refl _ _) (Nat.le_refl _) (by simp) ?_; (case hd => rfl); (case hg => rfl); (case hr => first | (go_simp; done) | (go_simp; rfl)); (case hp => exact (Reps.one (show Kd.M (Kd.int .u8) _ _ _ 46 [.int .u8 46] from rfl) (Reps.one (show Kd.M (Kd.int .u8) _ _ _ 46 [.int .u8 46] from rfl) (Reps.none _ _)))); intro v244 w21 ho22 hb hg_ hnew_; clear hg_ hnew_; (first | rw [← Ny243.out] at ho22 | (simp only [Int.reduceToNat] at ho22; rw [← Ny243.out] at ho22)); have n0_ := Aside0.mk (Kd.R_below (by (with_reducible repeat (first | apply Kd.R_alloc | apply Kd.R_drewN | apply Kd.R_drew)); exact HO_3.out) hb); have n1_ := Aside0.mk (Kd.R_elder' (by (with_reducible repeat (first | apply Kd.R_alloc | apply Kd.R_drewN | apply Kd.R_drew)); exact HO240.out) (Kd.R_base ho22) hb); have n2_ := Aside0.mk (Kd.R_lower (Kd.R_new' ho22 (Kd.R_lt (by (with_reducible repeat (first | apply Kd.R_alloc | apply Kd.R_drewN | apply Kd.R_drew)); exact HO240.out))) (below_size (by repeat (first | (with_reducible first | exact HB.out | apply below_alloc | apply pw_below_drewN | apply below_drew1) | exact HB.out)))); have n3_ := Aside0.mk (below_step (by repeat (first | (with_reducible first | exact HB.out | apply below_alloc | apply pw_below_drewN | apply below_drew1) | exact HB.out)) hb); clear HO_3; clear HO240; clear HB; have HO_3 := n0_; have HO240 := n1_; have HO245 := n2_; have HB := n3_; clear n0_ n1_ n2_ n3_; clear hb ho22; obtain ⟨Ao24, co24, eo24⟩ := Kd.R_slice HO245.out; subst eo24) | ((with_reducible refine gate_builtin (b := .append) (xs := #[.tmp 40, .tmp 41]) rfl ?_); at_builtin; refine Kd.R_append_rows (Kd.int .u8) (w0 := w) w.heap.size rfl (.tmp 40) (.tmp 41) 47 5 (.int .u8 0) 1 rfl Tryd.underlying47 info5 rfl (by decide) (by omega) v239 t238 y243 _ _ _ (fun k_ => some k_ ≠ (.slice Ao24 y243.length co24 : Value).ownBlock) (fun _ => False) rfl rfl ?aO ?aR (fun _ _ h => h) (fun _ h => h.elim) ?aF ?aB ?aS ?aL ?_; (case aR => repeat (first | exact (Kd.R_reads' HO245.out).2.2 | (with_reducible refine Kd.C_alloc ?_ _) | (with_reducible refine Kd.C_drewN ?_ _) | (with_reducible refine Kd.C_drew ?_))); (case aB => exact (by repeat (first | (with_reducible first | exact HB.out | apply below_alloc | apply pw_below_drewN | apply below_drew1) | exact HB.out))); (case aF => exact (fun k_ hk => Kd.fresh' (Kd.R_lt (by (with_reducible repeat (first | apply Kd.R_alloc | apply Kd.R_drewN | apply Kd.R_drew)); exact HO245.out)) k_ hk)); (case aO => exact (by (with_reducible repeat (first | apply Kd.R_alloc | apply Kd.R_drewN | apply Kd.R_drew)); exact Kd.R_mono HO240.out (fun _ hk => hk.2))); (case aS => exact (below_size (by repeat (first | (with_reducible first | exact HB.out | apply below_alloc | apply pw_below_drewN | apply below_drew1) | exact HB.out)))); (case aL => have := LMc17.out; omega); intro v247 w23 ho hb hg hat; rw [← Ny246.out] at ho; have n0_ := Aside0.mk (Kd.R_over' (by (with_reducible repeat (first | apply Kd.R_alloc | apply Kd.R_drewN | apply Kd.R_drew)); exact HO_3.out) (Kd.R_typed (by (with_reducible repeat (first | apply Kd.R_alloc | apply Kd.R_drewN | apply Kd.R_drew)); exact HO240.out)) (by decide) hg); have n1_ := Aside0.mk (Kd.R_after (ok := (fun _ => True)) (by (with_reducible repeat (first | apply Kd.R_alloc | apply Kd.R_drewN | apply Kd.R_drew)); exact HO245.out) hg hat); have n2_ := Aside0.mk (hb); have n3_ := Aside0.mk (ho); clear HO_3; clear HO245; clear HB; clear HO240; have HO_3 := n0_; have HO245 := n1_; have HB := n2_; have HO248 := n3_; clear n0_ n1_ n2_ n3_; clear ho hb hg hat; have p249 : 0 ≤ (x5_1 : Int) := of_decide_eq_true (by first | (with_reducible assumption) | assumption); have q249 : x5_1 < (t231.length : Int) := of_decide_eq_true (by first | (with_reducible assumption) | assumption); obtain ⟨ad249, e249, hx249_0, hx249_1⟩ := at_T32 (Kd.R_reads' HO_3.out).2.2 x5_1 p249 q249; obtain rfl : ad237 = ad249 := (by injection e249); replace p249 := eq_true p249; replace q249 := eq_true q249; obtain ⟨Ao25, co25, eo25⟩ := Kd.R_slice HO248.out; subst eo25) | (go_at_call 20; (with_reducible refine (barrowref01_Digits.calls kj8 (fun k_ => some k_ = (.slice Ao25 y246.length co25 : Value).ownBlock) (.slice Ao25 y246.length co25) y246 ((rd_T32 t231 x5_1).f1) t250 w _ ?side1 ?side2 A18.out).mono ?_); (case side1 => repeat (first | (with_reducible first | exact HB.out | apply below_alloc | apply pw_below_drewN | apply below_drew1) | exact HB.out)); (case side2 => exact Kd.R_tight rfl HO248.out); rintro e w26 ⟨v251, rfl, ho0, hb, hkp⟩; have n0_ := Aside0.mk (Kd.R_mono (ok' := fun k_ => True) (Kd.R_keptB ((Kd.R_apart' HO_3.out (Kd.R_typed HO248.out) (by decide))) hkp (fun k_ hk_ hs_ => (hk_.2) hs_)) (fun k_ hk_ => trivial)); have n1_ := Aside0.mk (Kd.R_mono (ok' := fun k_ => some k_ ≠ (v251 : Value).ownBlock) (Kd.R_keptB (HO245.out) hkp (fun k_ hk_ hs_ => (hk_.2) hs_)) (fun k_ hk_ => fun e_ => Or.elim (ho0.1 k_ e_.symm) (fun hs_ => hk_.2.1 hs_) (fun hn_ => Nat.not_le.2 hk_.2.2 hn_))); have n2_ := Aside0.mk (Kd.R_mono (ok' := fun k_ => some k_ ≠ (.slice Ao24 y243.length co24 : Value).ownBlock) ho0 (fun k_ hk_ => Or.elim hk_ (fun hs_ => fun e_ => (((HO245.out).1 k_ e_.symm).2) hs_) (fun hn_ => (Kd.fresh' (Kd.R_lt (by (with_reducible repeat (first | apply Kd.R_alloc | apply Kd.R_drewN | apply Kd.R_drew)); exact HO245.out)) k_ hn_)))); have n3_ := Aside0.mk (hb); clear HO_3; clear HO245; clear HB; clear HO248; have HO_3 := n0_; have HO245 := n1_; have HO252 := n2_; have HB := n3_; clear n0_ n1_ n2_ n3_; (try clear hb); (try clear hkp); (try clear ho0)))
           repeat (go_quiet (first | (go_at_call 20; (with_reducible refine (barrowref01_Digits.calls kj8 (fun k_ => some k_ = (.slice Ao19 x4_8.length co19 : Value).ownBlock) (.slice Ao19 x4_8.length co19) x4_8 ((rd_T32 t231 x5_1).f0) t238 w _ ?side1 ?side2 A15.out).mono ?_); (case side1 => repeat (first | (with_reducible first | exact HB.out | apply below_alloc | apply pw_below_drewN | apply below_drew1) | exact HB.out)); (case side2 => exact Kd.R_tight rfl HO_4.out); rintro e w20 ⟨v239, rfl, ho0, hb, hkp⟩; have n0_ := Aside0.mk (Kd.R_mono (ok' := fun k_ => True) (Kd.R_keptB ((Kd.R_apart' HO_3.out (Kd.R_typed HO_4.out) (by decide))) hkp (fun k_ hk_ hs_ => (hk_.2) hs_)) (fun k_ hk_ => trivial)); have n1_ := Aside0.mk (Kd.R_mono (ok' := fun k_ => True) ho0 (fun k_ hk_ => trivial)); have n2_ := Aside0.mk (hb); clear HO_3; clear HB; clear HO_4; have HO_3 := n0_; have HO240 := n1_; have HB := n2_; clear n0_ n1_ n2_; (try clear hb); (try clear hkp); (try clear ho0); have p241 : 0 ≤ (x5_1 : Int) := of_decide_eq_true (by first | (with_reducible assumption) | assumption); have q241 : x5_1 < (t231.length : Int) := of_decide_eq_true (by first | (with_reducible assumption) | assumption); obtain ⟨ad241, e241, hx241_0, hx241_1⟩ := at_T32 (Kd.R_reads' HO_3.out).2.2 x5_1 p241 q241; obtain rfl : ad237 = ad241 := (by injection e241); replace p241 := eq_true p241; replace q241 := eq_true q241; have p242 : 0 ≤ (x5_1 : Int) := of_decide_eq_true (by first | (with_reducible assumption) | assumption); have q242 : x5_1 < (t231.length : Int) := of_decide_eq_true (by first | (with_reducible assumption) | assumption); obtain ⟨ad242, e242, hx242_0, hx242_1⟩ := at_T32 (Kd.R_reads' HO_3.out).2.2 x5_1 p242 q242; obtain rfl : ad237 = ad242 := (by injection e242); replace p242 := eq_true p242; replace q242 := eq_true q242) | ((with_reducible refine gate_dst (N := 41) rfl ?_); refine Kd.R_lit (Kd.int .u8) _ 5 ?hg (N := 41) ?hd (xs := ([46, 46] : List Int)) (inner := [.int .u8 46, .int .u8 46]) (ok := fun _ => True) (okp := fun _ => True) ?hr ?hp (fun _ hk => hk) trivial (Below.refl _ _) (Nat.le_refl _) (by simp) ?_; (case hd => rfl); (case hg => rfl); (case hr => first | (go_simp; done) | (go_simp; rfl)); (case hp => exact (Reps.one (show Kd.M (Kd.int .u8) _ _ _ 46 [.int .u8 46] from rfl) (Reps.one (show Kd.M (Kd.int .u8) _ _ _ 46 [.int .u8 46] from rfl) (Reps.none _ _)))); intro v244 w21 ho22 hb hg_ hnew_; clear hg_ hnew_; (first | rw [← Ny243.out] at ho22 | (simp only [Int.reduceToNat] at ho22; rw [← Ny243.out] at ho22)); have n0_ := Aside0.mk (Kd.R_below (by (with_reducible repeat (first | apply Kd.R_alloc | apply Kd.R_drewN | apply Kd.R_drew)); exact HO_3.out) hb); have n1_ := Aside0.mk (Kd.R_elder' (by (with_reducible repeat (first | apply Kd.R_alloc | apply Kd.R_drewN | apply Kd.R_drew)); exact HO240.out) (Kd.R_base ho22) hb); have n2_ := Aside0.mk (Kd.R_lower (Kd.R_new' ho22 (Kd.R_lt (by (with_reducible repeat (first | apply Kd.R_alloc | apply Kd.R_drewN | apply Kd.R_drew)); exact HO240.out))) (below_size (by repeat (first | (with_reducible first | exact HB.out | apply below_alloc | apply pw_below_drewN | apply below_drew1) | exact HB.out)))); have n3_ := Aside0.mk (below_step (by repeat (first | (with_reducible first | exact HB.out | apply below_alloc | apply pw_below_drewN | apply below_drew1) | exact HB.out)) hb); clear HO_3; clear HO240; clear HB; have HO_3 := n0_; have HO240 := n1_; have HO245 := n2_; have HB := n3_; clear n0_ n1_ n2_ n3_; clear hb ho22; obtain ⟨Ao24, co24, eo24⟩ := Kd.R_slice HO245.out; subst eo24) | ((with_reducible refine gate_builtin (b := .append) (xs := #[.tmp 40, .tmp 41]) rfl ?_); at_builtin; refine Kd.R_append_rows (Kd.int .u8) (w0 := w) w.heap.size rfl (.tmp 40) (.tmp 41) 47 5 (.int .u8 0) 1 rfl Tryd.underlying47 info5 rfl (by decide) (by omega) v239 t238 y243 _ _ _ (fun k_ => some k_ ≠ (.slice Ao24 y243.length co24 : Value).ownBlock) (fun _ => False) rfl rfl ?aO ?aR (fun _ _ h => h) (fun _ h => h.elim) ?aF ?aB ?aS ?aL ?_; (case aR => repeat (first | exact (Kd.R_reads' HO245.out).2.2 | (with_reducible refine Kd.C_alloc ?_ _) | (with_reducible refine Kd.C_drewN ?_ _) | (with_reducible refine Kd.C_drew ?_))); (case aB => exact (by repeat (first | (with_reducible first | exact HB.out | apply below_alloc | apply pw_below_drewN | apply below_drew1) | exact HB.out))); (case aF => exact (fun k_ hk => Kd.fresh' (Kd.R_lt (by (with_reducible repeat (first | apply Kd.R_alloc | apply Kd.R_drewN | apply Kd.R_drew)); exact HO245.out)) k_ hk)); (case aO => exact (by (with_reducible repeat (first | apply Kd.R_alloc | apply Kd.R_drewN | apply Kd.R_drew)); exact Kd.R_mono HO240.out (fun _ hk => hk.2))); (case aS => exact (below_size (by repeat (first | (with_reducible first | exact HB.out | apply below_alloc | apply pw_below_drewN | apply below_drew1) | exact HB.out)))); (case aL => have := LMc17.out; omega); intro v247 w23 ho hb hg hat; rw [← Ny246.out] at ho; have n0_ := Aside0.mk (Kd.R_over' (by (with_reducible repeat (first | apply Kd.R_alloc | apply Kd.R_drewN | apply Kd.R_drew)); exact HO_3.out) (Kd.R_typed (by (with_reducible repeat (first | apply Kd.R_alloc | apply Kd.R_drewN | apply Kd.R_drew)); exact HO240.out)) (by decide) hg); have n1_ := Aside0.mk (Kd.R_after (ok := (fun _ => True)) (by (with_reducible repeat (first | apply Kd.R_alloc | apply Kd.R_drewN | apply Kd.R_drew)); exact HO245.out) hg hat); have n2_ := Aside0.mk (hb); have n3_ := Aside0.mk (ho); clear HO_3; clear HO245; clear HB; clear HO240; have HO_3 := n0_; have HO245 := n1_; have HB := n2_; have HO248 := n3_; clear n0_ n1_ n2_ n3_; clear ho hb hg hat; have p249 : 0 ≤ (x5_1 : Int) := of_decide_eq_true (by first | (with_reducible assumption) | assumption); have q249 : x5_1 < (t231.length : Int) := of_decide_eq_true (by first | (with_reducible assumption) | assumption); obtain ⟨ad249, e249, hx249_0, hx249_1⟩ := at_T32 (Kd.R_reads' HO_3.out).2.2 x5_1 p249 q249; obtain rfl : ad237 = ad249 := (by injection e249); replace p249 := eq_true p249; replace q249 := eq_true q249; obtain ⟨Ao25, co25, eo25⟩ := Kd.R_slice HO248.out; subst eo25) | (go_at_call 20; (with_reducible refine (barrowref01_Digits.calls kj8 (fun k_ => some k_ = (.slice Ao25 y246.length co25 : Value).ownBlock) (.slice Ao25 y246.length co25) y246 ((rd_T32 t231 x5_1).f1) t250 w _ ?side1 ?side2 A18.out).mono ?_); (case side1 => repeat (first | (with_reducible first | exact HB.out | apply below_alloc | apply pw_below_drewN | apply below_drew1) | exact HB.out)); (case side2 => exact Kd.R_tight rfl HO248.out); rintro e w26 ⟨v251, rfl, ho0, hb, hkp⟩; have n0_ := Aside0.mk (Kd.R_mono (ok' := fun k_ => True) (Kd.R_keptB ((Kd.R_apart' HO_3.out (Kd.R_typed HO248.out) (by decide))) hkp (fun k_ hk_ hs_ => (hk_.2) hs_)) (fun k_ hk_ => trivial)); have n1_ := Aside0.mk (Kd.R_mono (ok' := fun k_ => some k_ ≠ (v251 : Value).ownBlock) (Kd.R_keptB (HO245.out) hkp (fun k_ hk_ hs_ => (hk_.2) hs_)) (fun k_ hk_ => fun e_ => Or.elim (ho0.1 k_ e_.symm) (fun hs_ => hk_.2.1 hs_) (fun hn_ => Nat.not_le.2 hk_.2.2 hn_))); have n2_ := Aside0.mk (Kd.R_mono (ok' := fun k_ => some k_ ≠ (.slice Ao24 y243.length co24 : Value).ownBlock) ho0 (fun k_ hk_ => Or.elim hk_ (fun hs_ => fun e_ => (((HO245.out).1 k_ e_.symm).2) hs_) (fun hn_ => (Kd.fresh' (Kd.R_lt (by (with_reducible repeat (first | apply Kd.R_alloc | apply Kd.R_drewN | apply Kd.R_drew)); exact HO245.out)) k_ hn_)))); have n3_ := Aside0.mk (hb); clear HO_3; clear HO245; clear HB; clear HO248; have HO_3 := n0_; have HO245 := n1_; have HO252 := n2_; have HB := n3_; clear n0_ n1_ n2_ n3_; (try clear hb); (try clear hkp); (try clear ho0))); try go_wp2_with (first | (go_at_call 20; (with_reducible refine (barrowref01_Digits.calls kj8 (fun k_ => some k_ = (.slice Ao19 x4_8.length co19 : Value).ownBlock) (.slice Ao19 x4_8.length co19) x4_8 ((rd_T32 t231 x5_1).f0) t238 w _ ?side1 ?side2 A15.out).mono ?_); (case side1 => repeat (first | (with_reducible first | exact HB.out | apply below_alloc | apply pw_below_drewN | apply below_drew1) | exact HB.out)); (case side2 => exact Kd.R_tight rfl HO_4.out); rintro e w20 ⟨v239, rfl, ho0, hb, hkp⟩; have n0_ := Aside0.mk (Kd.R_mono (ok' := fun k_ => True) (Kd.R_keptB ((Kd.R_apart' HO_3.out (Kd.R_typed HO_4.out) (by decide))) hkp (fun k_ hk_ hs_ => (hk_.2) hs_)) (fun k_ hk_ => trivial)); have n1_ := Aside0.mk (Kd.R_mono (ok' := fun k_ => True) ho0 (fun k_ hk_ => trivial)); have n2_ := Aside0.mk (hb); clear HO_3; clear HB; clear HO_4; have HO_3 := n0_; have HO240 := n1_; have HB := n2_; clear n0_ n1_ n2_; (try clear hb); (try clear hkp); (try clear ho0); have p241 : 0 ≤ (x5_1 : Int) := of_decide_eq_true (by first | (with_reducible assumption) | assumption); have q241 : x5_1 < (t231.length : Int) := of_decide_eq_true (by first | (with_reducible assumption) | assumption); obtain ⟨ad241, e241, hx241_0, hx241_1⟩ := at_T32 (Kd.R_reads' HO_3.out).2.2 x5_1 p241 q241; obtain rfl : ad237 = ad241 := (by injection e241); replace p241 := eq_true p241; replace q241 := eq_true q241; have p242 : 0 ≤ (x5_1 : Int) := of_decide_eq_true (by first | (with_reducible assumption) | assumption); have q242 : x5_1 < (t231.length : Int) := of_decide_eq_true (by first | (with_reducible assumption) | assumption); obtain ⟨ad242, e242, hx242_0, hx242_1⟩ := at_T32 (Kd.R_reads' HO_3.out).2.2 x5_1 p242 q242; obtain rfl : ad237 = ad242 := (by injection e242); replace p242 := eq_true p242; replace q242 := eq_true q242) | ((with_reducible refine gate_dst (N := 41) rfl ?_); refine Kd.R_lit (Kd.int .u8) _ 5 ?hg (N := 41) ?hd (xs := ([46, 46] : List Int)) (inner := [.int .u8 46, .int .u8 46]) (ok := fun _ => True) (okp := fun _ => True) ?hr ?hp (fun _ hk => hk) trivial (Below.refl _ _) (Nat.le_refl _) (by simp) ?_; (case hd => rfl); (case hg => rfl); (case hr => first | (go_simp; done) | (go_simp; rfl)); (case hp => exact (Reps.one (show Kd.M (Kd.int .u8) _ _ _ 46 [.int .u8 46] from rfl) (Reps.one (show Kd.M (Kd.int .u8) _ _ _ 46 [.int .u8 46] from rfl) (Reps.none _ _)))); intro v244 w21 ho22 hb hg_ hnew_; clear hg_ hnew_; (first | rw [← Ny243.out] at ho22 | (simp only [Int.reduceToNat] at ho22; rw [← Ny243.out] at ho22)); have n0_ := Aside0.mk (Kd.R_below (by (with_reducible repeat (first | apply Kd.R_alloc | apply Kd.R_drewN | apply Kd.R_drew)); exact HO_3.out) hb); have n1_ := Aside0.mk (Kd.R_elder' (by (with_reducible repeat (first | apply Kd.R_alloc | apply Kd.R_drewN | apply Kd.R_drew)); exact HO240.out) (Kd.R_base ho22) hb); have n2_ := Aside0.mk (Kd.R_lower (Kd.R_new' ho22 (Kd.R_lt (by (with_reducible repeat (first | apply Kd.R_alloc | apply Kd.R_drewN | apply Kd.R_drew)); exact HO240.out))) (below_size (by repeat (first | (with_reducible first | exact HB.out | apply below_alloc | apply pw_below_drewN | apply below_drew1) | exact HB.out)))); have n3_ := Aside0.mk (below_step (by repeat (first | (with_reducible first | exact HB.out | apply below_alloc | apply pw_below_drewN | apply below_drew1) | exact HB.out)) hb); clear HO_3; clear HO240; clear HB; have HO_3 := n0_; have HO240 := n1_; have HO245 := n2_; have HB := n3_; clear n0_ n1_ n2_ n3_; clear hb ho22; obtain ⟨Ao24, co24, eo24⟩ := Kd.R_slice HO245.out; subst eo24) | ((with_reducible refine gate_builtin (b := .append) (xs := #[.tmp 40, .tmp 41]) rfl ?_); at_builtin; refine Kd.R_append_rows (Kd.int .u8) (w0 := w) w.heap.size rfl (.tmp 40) (.tmp 41) 47 5 (.int .u8 0) 1 rfl Tryd.underlying47 info5 rfl (by decide) (by omega) v239 t238 y243 _ _ _ (fun k_ => some k_ ≠ (.slice Ao24 y243.length co24 : Value).ownBlock) (fun _ => False) rfl rfl ?aO ?aR (fun _ _ h => h) (fun _ h => h.elim) ?aF ?aB ?aS ?aL ?_; (case aR => repeat (first | exact (Kd.R_reads' HO245.out).2.2 | (with_reducible refine Kd.C_alloc ?_ _) | (with_reducible refine Kd.C_drewN ?_ _) | (with_reducible refine Kd.C_drew ?_))); (case aB => exact (by repeat (first | (with_reducible first | exact HB.out | apply below_alloc | apply pw_below_drewN | apply below_drew1) | exact HB.out))); (case aF => exact (fun k_ hk => Kd.fresh' (Kd.R_lt (by (with_reducible repeat (first | apply Kd.R_alloc | apply Kd.R_drewN | apply Kd.R_drew)); exact HO245.out)) k_ hk)); (case aO => exact (by (with_reducible repeat (first | apply Kd.R_alloc | apply Kd.R_drewN | apply Kd.R_drew)); exact Kd.R_mono HO240.out (fun _ hk => hk.2))); (case aS => exact (below_size (by repeat (first | (with_reducible first | exact HB.out | apply below_alloc | apply pw_below_drewN | apply below_drew1) | exact HB.out)))); (case aL => have := LMc17.out; omega); intro v247 w23 ho hb hg hat; rw [← Ny246.out] at ho; have n0_ := Aside0.mk (Kd.R_over' (by (with_reducible repeat (first | apply Kd.R_alloc | apply Kd.R_drewN | apply Kd.R_drew)); exact HO_3.out) (Kd.R_typed (by (with_reducible repeat (first | apply Kd.R_alloc | apply Kd.R_drewN | apply Kd.R_drew)); exact HO240.out)) (by decide) hg); have n1_ := Aside0.mk (Kd.R_after (ok := (fun _ => True)) (by (with_reducible repeat (first | apply Kd.R_alloc | apply Kd.R_drewN | apply Kd.R_drew)); exact HO245.out) hg hat); have n2_ := Aside0.mk (hb); have n3_ := Aside0.mk (ho); clear HO_3; clear HO245; clear HB; clear HO240; have HO_3 := n0_; have HO245 := n1_; have HB := n2_; have HO248 := n3_; clear n0_ n1_ n2_ n3_; clear ho hb hg hat; have p249 : 0 ≤ (x5_1 : Int) := of_decide_eq_true (by first | (with_reducible assumption) | assumption); have q249 : x5_1 < (t231.length : Int) := of_decide_eq_true (by first | (with_reducible assumption) | assumption); obtain ⟨ad249, e249, hx249_0, hx249_1⟩ := at_T32 (Kd.R_reads' HO_3.out).2.2 x5_1 p249 q249; obtain rfl : ad237 = ad249 := (by injection e249); replace p249 := eq_true p249; replace q249 := eq_true q249; obtain ⟨Ao25, co25, eo25⟩ := Kd.R_slice HO248.out; subst eo25) | (go_at_call 20; (with_reducible refine (barrowref01_Digits.calls kj8 (fun k_ => some k_ = (.slice Ao25 y246.length co25 : Value).ownBlock) (.slice Ao25 y246.length co25) y246 ((rd_T32 t231 x5_1).f1) t250 w _ ?side1 ?side2 A18.out).mono ?_); (case side1 => repeat (first | (with_reducible first | exact HB.out | apply below_alloc | apply pw_below_drewN | apply below_drew1) | exact HB.out)); (case side2 => exact Kd.R_tight rfl HO248.out); rintro e w26 ⟨v251, rfl, ho0, hb, hkp⟩; have n0_ := Aside0.mk (Kd.R_mono (ok' := fun k_ => True) (Kd.R_keptB ((Kd.R_apart' HO_3.out (Kd.R_typed HO248.out) (by decide))) hkp (fun k_ hk_ hs_ => (hk_.2) hs_)) (fun k_ hk_ => trivial)); have n1_ := Aside0.mk (Kd.R_mono (ok' := fun k_ => some k_ ≠ (v251 : Value).ownBlock) (Kd.R_keptB (HO245.out) hkp (fun k_ hk_ hs_ => (hk_.2) hs_)) (fun k_ hk_ => fun e_ => Or.elim (ho0.1 k_ e_.symm) (fun hs_ => hk_.2.1 hs_) (fun hn_ => Nat.not_le.2 hk_.2.2 hn_))); have n2_ := Aside0.mk (Kd.R_mono (ok' := fun k_ => some k_ ≠ (.slice Ao24 y243.length co24 : Value).ownBlock) ho0 (fun k_ hk_ => Or.elim hk_ (fun hs_ => fun e_ => (((HO245.out).1 k_ e_.symm).2) hs_) (fun hn_ => (Kd.fresh' (Kd.R_lt (by (with_reducible repeat (first | apply Kd.R_alloc | apply Kd.R_drewN | apply Kd.R_drew)); exact HO245.out)) k_ hn_)))); have n3_ := Aside0.mk (hb); clear HO_3; clear HO245; clear HB; clear HO248; have HO_3 := n0_; have HO245 := n1_; have HO252 := n2_; have HB := n3_; clear n0_ n1_ n2_ n3_; (try clear hb); (try clear hkp); (try clear ho0))))
           go_roundg kj8
           case measure => have := HK1.out; have := HJ8.out; omega
           case rel => exact ⟨(t250), (wrap64 (x5_1 + 1)), (by first | rfl | (simp; done) | (simp [*]; done)), H', ⟨by have := HK1.out; have := HJ8.out; omega⟩, ⟨by (with_reducible repeat (first | apply Kd.R_alloc | apply Kd.R_drewN | apply Kd.R_drew)); exact HO_3.out⟩, ⟨by (with_reducible repeat (first | apply Kd.R_alloc | apply Kd.R_drewN | apply Kd.R_drew)); exact Kd.R_mono HO252.out (fun _ hk => trivial)⟩, ⟨by repeat (first | (with_reducible first | exact HB.out | apply below_alloc | apply pw_below_drewN | apply below_drew1) | exact HB.out)⟩⟩
          ·rw [if_neg c17] at H
           exact absurd H (by simp)
         ·rw [if_neg c16] at H
          have c16b0 : decide (((rd_T32 t231 x5_1).f0) < ((rd_T32 t231 x5_1).f1)) = false := decide_eq_false c16
          clear c16
          have H' := Aside0.mk H
          clear H
          have p237 : 0 ≤ (x5_1 : Int) := of_decide_eq_true (by first | (with_reducible assumption) | assumption)
          have q237 : x5_1 < (t231.length : Int) := of_decide_eq_true (by first | (with_reducible assumption) | assumption)
          obtain ⟨ad237, e237, hx237_0, hx237_1⟩ := at_T32 (Kd.R_reads' HO_3.out).2.2 x5_1 p237 q237
          cases e237
          replace p237 := eq_true p237
          replace q237 := eq_true q237
          obtain ⟨Ao27, co27, eo27⟩ := Kd.R_slice HO_4.out
          subst eo27
          go_wp2_with (first | (go_at_call 20; (with_reducible refine (barrowref01_Digits.calls kj8 (fun k_ => some k_ = (.slice Ao27 x4_8.length co27 : Value).ownBlock) (.slice Ao27 x4_8.length co27) x4_8 ((rd_T32 t231 x5_1).f0) t238 w _ ?side1 ?side2 A15.out).mono ?_); (case side1 => repeat (first | (with_reducible first | exact HB.out | apply below_alloc | apply pw_below_drewN | apply below_drew1) | exact HB.out)); (case side2 => exact Kd.R_tight rfl HO_4.out); rintro e w28 ⟨v239, rfl, ho0, hb, hkp⟩; have n0_ := Aside0.mk (Kd.R_mono (ok' := fun k_ => True) (Kd.R_keptB ((Kd.R_apart' HO_3.out (Kd.R_typed HO_4.out) (by decide))) hkp (fun k_ hk_ hs_ => (hk_.2) hs_)) (fun k_ hk_ => trivial)); have n1_ := Aside0.mk (Kd.R_mono (ok' := fun k_ => True) ho0 (fun k_ hk_ => trivial)); have n2_ := Aside0.mk (hb); clear HO_3; clear HB; clear HO_4; have HO_3 := n0_; have HO240 := n1_; have HB := n2_; clear n0_ n1_ n2_; (try clear hb); (try clear hkp); (try clear ho0); have p241 : 0 ≤ (x5_1 : Int) := of_decide_eq_true (by first | (with_reducible assumption) | assumption); have q241 : x5_1 < (t231.length : Int) := of_decide_eq_true (by first | (with_reducible assumption) | assumption); obtain ⟨ad241, e241, hx241_0, hx241_1⟩ := at_T32 (Kd.R_reads' HO_3.out).2.2 x5_1 p241 q241; obtain rfl : ad237 = ad241 := (by injection e241); replace p241 := eq_true p241; replace q241 := eq_true q241; have p242 : 0 ≤ (x5_1 : Int) := of_decide_eq_true (by first | (with_reducible assumption) | assumption); have q242 : x5_1 < (t231.length : Int) := of_decide_eq_true (by first | (with_reducible assumption) | assumption); obtain ⟨ad242, e242, hx242_0, hx242_1⟩ := at_T32 (Kd.R_reads' HO_3.out).2.2 x5_1 p242 q242; obtain rfl : ad237 = ad242 := (by injection e242); replace p242 := eq_true p242; replace q242 := eq_true q242))
          repeat (go_quiet (first | (go_at_call 20; (with_reducible refine (barrowref01_Digits.calls kj8 (fun k_ => some k_ = (.slice Ao27 x4_8.length co27 : Value).ownBlock) (.slice Ao27 x4_8.length co27) x4_8 ((rd_T32 t231 x5_1).f0) t238 w _ ?side1 ?side2 A15.out).mono ?_); (case side1 => repeat (first | (with_reducible first | exact HB.out | apply below_alloc | apply pw_below_drewN | apply below_drew1) | exact HB.out)); (case side2 => exact Kd.R_tight rfl HO_4.out); rintro e w28 ⟨v239, rfl, ho0, hb, hkp⟩; have n0_ := Aside0.mk (Kd.R_mono (ok' := fun k_ => True) (Kd.R_keptB ((Kd.R_apart' HO_3.out (Kd.R_typed HO_4.out) (by decide))) hkp (fun k_ hk_ hs_ => (hk_.2) hs_)) (fun k_ hk_ => trivial)); have n1_ := Aside0.mk (Kd.R_mono (ok' := fun k_ => True) ho0 (fun k_ hk_ => trivial)); have n2_ := Aside0.mk (hb); clear HO_3; clear HB; clear HO_4; have HO_3 := n0_; have HO240 := n1_; have HB := n2_; clear n0_ n1_ n2_; (try clear hb); (try clear hkp); (try clear ho0); have p241 : 0 ≤ (x5_1 : Int) := of_decide_eq_true (by first | (with_reducible assumption) | assumption); have q241 : x5_1 < (t231.length : Int) := of_decide_eq_true (by first | (with_reducible assumption) | assumption); obtain ⟨ad241, e241, hx241_0, hx241_1⟩ := at_T32 (Kd.R_reads' HO_3.out).2.2 x5_1 p241 q241; obtain rfl : ad237 = ad241 := (by injection e241); replace p241 := eq_true p241; replace q241 := eq_true q241; have p242 : 0 ≤ (x5_1 : Int) := of_decide_eq_true (by first | (with_reducible assumption) | assumption); have q242 : x5_1 < (t231.length : Int) := of_decide_eq_true (by first | (with_reducible assumption) | assumption); obtain ⟨ad242, e242, hx242_0, hx242_1⟩ := at_T32 (Kd.R_reads' HO_3.out).2.2 x5_1 p242 q242; obtain rfl : ad237 = ad242 := (by injection e242); replace p242 := eq_true p242; replace q242 := eq_true q242)); try go_wp2_with (first | (go_at_call 20; (with_reducible refine (barrowref01_Digits.calls kj8 (fun k_ => some k_ = (.slice Ao27 x4_8.length co27 : Value).ownBlock) (.slice Ao27 x4_8.length co27) x4_8 ((rd_T32 t231 x5_1).f0) t238 w _ ?side1 ?side2 A15.out).mono ?_); (case side1 => repeat (first | (with_reducible first | exact HB.out | apply below_alloc | apply pw_below_drewN | apply below_drew1) | exact HB.out)); (case side2 => exact Kd.R_tight rfl HO_4.out); rintro e w28 ⟨v239, rfl, ho0, hb, hkp⟩; have n0_ := Aside0.mk (Kd.R_mono (ok' := fun k_ => True) (Kd.R_keptB ((Kd.R_apart' HO_3.out (Kd.R_typed HO_4.out) (by decide))) hkp (fun k_ hk_ hs_ => (hk_.2) hs_)) (fun k_ hk_ => trivial)); have n1_ := Aside0.mk (Kd.R_mono (ok' := fun k_ => True) ho0 (fun k_ hk_ => trivial)); have n2_ := Aside0.mk (hb); clear HO_3; clear HB; clear HO_4; have HO_3 := n0_; have HO240 := n1_; have HB := n2_; clear n0_ n1_ n2_; (try clear hb); (try clear hkp); (try clear ho0); have p241 : 0 ≤ (x5_1 : Int) := of_decide_eq_true (by first | (with_reducible assumption) | assumption); have q241 : x5_1 < (t231.length : Int) := of_decide_eq_true (by first | (with_reducible assumption) | assumption); obtain ⟨ad241, e241, hx241_0, hx241_1⟩ := at_T32 (Kd.R_reads' HO_3.out).2.2 x5_1 p241 q241; obtain rfl : ad237 = ad241 := (by injection e241); replace p241 := eq_true p241; replace q241 := eq_true q241; have p242 : 0 ≤ (x5_1 : Int) := of_decide_eq_true (by first | (with_reducible assumption) | assumption); have q242 : x5_1 < (t231.length : Int) := of_decide_eq_true (by first | (with_reducible assumption) | assumption); obtain ⟨ad242, e242, hx242_0, hx242_1⟩ := at_T32 (Kd.R_reads' HO_3.out).2.2 x5_1 p242 q242; obtain rfl : ad237 = ad242 := (by injection e242); replace p242 := eq_true p242; replace q242 := eq_true q242)))
          go_roundg kj8
          case measure => have := HK1.out; have := HJ8.out; omega
          case rel => exact ⟨(t238), (wrap64 (x5_1 + 1)), (by first | rfl | (simp; done) | (simp [*]; done)), H', ⟨by have := HK1.out; have := HJ8.out; omega⟩, ⟨by (with_reducible repeat (first | apply Kd.R_alloc | apply Kd.R_drewN | apply Kd.R_drew)); exact HO_3.out⟩, ⟨by (with_reducible repeat (first | apply Kd.R_alloc | apply Kd.R_drewN | apply Kd.R_drew)); exact HO240.out⟩, ⟨by repeat (first | (with_reducible first | exact HB.out | apply below_alloc | apply pw_below_drewN | apply below_drew1) | exact HB.out)⟩⟩
        ·rw [if_neg c14] at H
         exact absurd H (by simp)
       ·rw [if_neg c13] at H
        exact absurd H (by simp)
    ·rw [if_neg c8] at H
     have c8b0 : decide (x5_1 < (t231.length : Int)) = false := decide_eq_false c8
     clear c8
     obtain rfl := Option.some.inj H
     have hcv29 := own_string (P := Tryd.prog) Tryd.underlying47 Tryd.underlying5 Tryd.underlying9 (Kd.own_of_R HO_4.out)
     go_wp2
     repeat (go_quiet (fail); try go_wp2)
     go_ret
     exact ⟨by first | rfl | (simp [errW_none, errW_some] <;> rfl) | (simp [*, errW_none, errW_some] <;> rfl), by repeat (first | (with_reducible first | exact HB.out | apply below_alloc | apply pw_below_drewN | apply below_drew1) | exact HB.out)⟩

end Go.Proofs.YtlmdcpooogaolaaDoor.G

-- PRINTED by print.py (a twelfth state) out of the translation. Not trusted: Lean checks it.
namespace Go.Proofs.YtlmdcpooogaolaaDoor.G
open Go.RowKit Go.Proofs.YtlmdcpooogaolaaDoorW.PrintWords Go.Proofs.YtlmdcpooogaolaaDoorW.PrintLast Go.Proofs.YtlmdcpooogaolaaDoorW.PrintMore
attribute [local go_sem] max2_int min2_int max_two min_two max_three min_three max_four min_four   -- for this text's walks alone
set_option linter.unusedVariables false
set_option linter.unusedSimpArgs false

/-! ### span_number: function 15 -/
mutual
def span_number.j0 : Nat → ByteArray → Bool → Option (Int)
 | 0, _, _ => none
 | k + 1, x0, x16 => if x16 = true then (some 0) else (span_number.l0 k x0 0 (x0.size : Int) 0)
def span_number.l0 : Nat → ByteArray → Int → Int → Int → Option (Int)
 | 0, _, _, _, _ => none
 | k + 1, x0, x3, x18, x19 => if x19 < x18 then (if 0 ≤ x19 then (if x19 < (x0.size : Int) then (if (bt x0 x19) < 48 then (some 0) else (if (bt x0 x19) > 57 then (some 0) else (span_number.l0 k x0 (wrap64 ((wrap64 (10 * x3)) + (((bt x0 x19) - 48) % 256))) x18 (wrap64 (x19 + 1))))) else (none)) else (none)) else (if x3 > 1000000000 then (some 0) else (some x3))
end
def span_number.f (k : Nat) (a0 : ByteArray) : Option (Int) := if a0.toList = ([] : List UInt8) then (span_number.j0 k a0 true) else (if (a0.size : Int) > 10 then (span_number.j0 k a0 true) else (if 0 < (a0.size : Int) then (span_number.j0 k a0 ((bt a0 0) == 48)) else (none)))
theorem span_number.mono_l : ∀ k, (∀ y0 y1, LeO (span_number.j0 k y0 y1) (span_number.j0 (k + 1) y0 y1)) ∧ (∀ y0 y1 y2 y3, LeO (span_number.l0 k y0 y1 y2 y3) (span_number.l0 (k + 1) y0 y1 y2 y3))
 | 0 => ⟨fun _ _ r h => by simp [span_number.j0] at h, fun _ _ _ _ r h => by simp [span_number.l0] at h⟩
 | k + 1 => by
  obtain ⟨ih0, ih1⟩ := span_number.mono_l k
  refine ⟨?_, ?_⟩
  ·intro y0 y1
   unfold span_number.j0
   repeat' first
   | (with_reducible exact ih0 _ _)
   | (with_reducible exact ih1 _ _ _ _)
   | (with_reducible exact LeO.refl _)
   | (with_reducible exact LeO.none _)
   | (with_reducible refine LeO.ite ?_ ?_)
   | (with_reducible refine LeO.bind ?_ (fun _ => ?_))
   | exact ih0 _ _
   | exact ih1 _ _ _ _
   | exact LeO.none _
   | refine LeO.ite ?_ ?_
   | refine LeO.bind ?_ (fun _ => ?_)
  ·intro y0 y1 y2 y3
   unfold span_number.l0
   repeat' first
   | (with_reducible exact ih0 _ _)
   | (with_reducible exact ih1 _ _ _ _)
   | (with_reducible exact LeO.refl _)
   | (with_reducible exact LeO.none _)
   | (with_reducible refine LeO.ite ?_ ?_)
   | (with_reducible refine LeO.bind ?_ (fun _ => ?_))
   | exact ih0 _ _
   | exact ih1 _ _ _ _
   | exact LeO.none _
   | refine LeO.ite ?_ ?_
   | refine LeO.bind ?_ (fun _ => ?_)
theorem span_number.mono : ∀ a0 k, LeO (span_number.f k a0) (span_number.f (k + 1) a0) := by
 intro a0 k
 obtain ⟨ih0, ih1⟩ := span_number.mono_l k
 unfold span_number.f
 repeat' first
   | (with_reducible exact ih0 _ _)
   | (with_reducible exact ih1 _ _ _ _)
   | (with_reducible exact LeO.refl _)
   | (with_reducible exact LeO.none _)
   | (with_reducible refine LeO.ite ?_ ?_)
   | (with_reducible refine LeO.bind ?_ (fun _ => ?_))
   | exact ih0 _ _
   | exact ih1 _ _ _ _
   | exact LeO.none _
   | refine LeO.ite ?_ ?_
   | refine LeO.bind ?_ (fun _ => ?_)
set_option maxHeartbeats 8000000 in
set_option maxRecDepth 100000 in
theorem span_number.calls (k : Nat) (a0 : ByteArray) (r : Int) (w : World) (h : span_number.f k a0 = some r) :
  Calls Tryd.prog 15 #[.string a0] w fun e w' => e = .returned (.int .i64 r) ∧ Drawn0 w w' := by
 have H : (if a0.toList = ([] : List UInt8) then (span_number.j0 k a0 true) else (if (a0.size : Int) > 10 then (span_number.j0 k a0 true) else (if 0 < (a0.size : Int) then (span_number.j0 k a0 ((bt a0 0) == 48)) else (none)))) = some r := h
 clear h
 have HC2 := Aside0.mk H
 clear H
 go_enter Tryd.func15, Tryd.ntmps15
 go_upto_region 1 with (fail)
 go_cut [16] (fun v16 wc => ∃ (kq : Nat) (x16_1 : Bool), v16 = .bool x16_1 ∧ Aside0 (span_number.j0 kq a0 x16_1 = some r) ∧ Aside0 (kq ≤ k) ∧ Drawn0 w wc)
 case first =>
  have H := HC2.out
  clear HC2
  by_cases c3 : a0.toList = ([] : List UInt8)
  ·rw [if_pos c3] at H
   have c3b0 : (a0.toList == ([] : List UInt8)) = true := beq_iff_eq.mpr c3
   have c3b1 : (a0.toList != ([] : List UInt8)) = false := bne_eq_false_iff_eq.mpr c3
   clear c3
   (first | rw [c3b0] | (simp only [i64_w, i32_w]; rw [c3b0]) | skip)
   have H' := Aside0.mk H
   clear H
   go_wp2
   go_meet
   case rel => exact ⟨_, (true), (by first | rfl | (simp; done) | (simp [*]; done)), H', ⟨by first | omega | exact Nat.le_refl _⟩, by repeat (first | exact Drawn0.refl _ | apply Drawn0.step)⟩
  ·rw [if_neg c3] at H
   have c3b0 : (a0.toList == ([] : List UInt8)) = false := beq_eq_false_iff_ne.mpr c3
   have c3b1 : (a0.toList != ([] : List UInt8)) = true := bne_iff_ne.mpr c3
   (first | rw [c3b0] | (simp only [i64_w, i32_w]; rw [c3b0]) | skip)
   by_cases c4 : (a0.size : Int) > 10
   ·rw [if_pos c4] at H
    have c4b0 : decide (10 < (a0.size : Int)) = true := decide_eq_true c4
    have c4b1 : decide (10 < a0.size) = true := decide_eq_true (by omega)
    clear c4
    have H' := Aside0.mk H
    clear H
    go_wp2
    go_meet
    case rel => exact ⟨_, (true), (by first | rfl | (simp; done) | (simp [*]; done)), H', ⟨by first | omega | exact Nat.le_refl _⟩, by repeat (first | exact Drawn0.refl _ | apply Drawn0.step)⟩
   ·rw [if_neg c4] at H
    have c4b0 : decide (10 < (a0.size : Int)) = false := decide_eq_false c4
    have c4b1 : decide (10 < a0.size) = false := decide_eq_false (by omega)
    clear c4
    by_cases c5 : 0 < (a0.size : Int)
    ·rw [if_pos c5] at H
     have c5b0 : decide (0 < (a0.size : Int)) = true := decide_eq_true c5
     have c5b1 : decide (0 < a0.size) = true := decide_eq_true (by omega)
     clear c5
     have H' := Aside0.mk H
     clear H
     have p6 : 0 ≤ (0 : Int) := (by omega)
     have q6 : 0 < a0.size := (by have : (0 : Int) < (a0.size : Int) := of_decide_eq_true (by first | (with_reducible assumption) | assumption); omega)
     have hx6 : ∀ h : 0 < a0.size, ((a0[0]'h).toNat : Int) = bt a0 0 := bt_at a0 0
     clear p6
     have qi6 : (0 < (a0.size : Int)) = True := eq_true (of_decide_eq_true (by first | (with_reducible assumption) | assumption))
     replace q6 := eq_true q6
     go_wp2
     go_meet
     case rel => exact ⟨_, (((bt a0 0) == 48)), (by first | rfl | (simp; done) | (simp [*]; done)), H', ⟨by first | omega | exact Nat.le_refl _⟩, by repeat (first | exact Drawn0.refl _ | apply Drawn0.step)⟩
    ·rw [if_neg c5] at H
     exact absurd H (by simp)
 case rest =>
  clear HC2
  try clear c1
  try clear p2
  try clear c3
  try clear c3b0
  try clear c3b1
  try clear c4
  try clear c4b0
  try clear c4b1
  try clear c5
  try clear c5b0
  try clear c5b1
  try clear p6
  try clear q6
  try clear hx6
  try clear qi6
  try clear p6
  try clear q6
  obtain ⟨kq, x16_1, rfl, HA, HJ1, ⟨mc1, rfl⟩⟩ := hcut
  cases kq with
  | zero => exact absurd HA.out (by simp [span_number.j0])
  | succ kj1 =>
   have H := HA.out
   clear HA
   simp only [span_number.j0] at H
   by_cases c7 : x16_1 = true
   ·subst c7
    have H1 : (some 0) = some r := by rw [if_pos rfl] at H; exact H
    clear H
    have H := H1
    clear H1
    obtain rfl := Option.some.inj H
    go_wp2
    go_ret
    exact ⟨by first | rfl | (simp; done) | (simp [*]; done), by repeat (first | exact Drawn0.refl _ | apply Drawn0.step)⟩
   ·replace c7 := Bool.eq_false_iff.mpr c7
    subst c7
    have H1 : (span_number.l0 kj1 a0 0 (a0.size : Int) 0) = some r := by rw [if_neg (show ¬ (false = true) by decide)] at H; exact H
    clear H
    have H := H1
    clear H1
    have H' := Aside0.mk H
    clear H
    go_wp2
    go_loopg [3, 19] kj1 (fun kq v3 v19 w' => ∃ (x3_2 : Int) (x19_2 : Int), v3 = .int .i64 x3_2 ∧ v19 = .int .i64 x19_2 ∧ Aside0 (span_number.l0 kq a0 x3_2 (a0.size : Int) x19_2 = some r) ∧ Aside0 (kq ≤ kj1) ∧ Drawn0 w w')
    case atStart => exact ⟨(0), (0), (by first | rfl | (simp; done) | (simp [*]; done)), (by first | rfl | (simp; done) | (simp [*]; done)), H', ⟨Nat.le_refl _⟩, by repeat (first | exact Drawn0.refl _ | apply Drawn0.step)⟩
    case round =>
     clear H'
     try clear c1
     try clear p2
     try clear c3
     try clear c3b0
     try clear c3b1
     try clear c4
     try clear c4b0
     try clear c4b1
     try clear c5
     try clear c5b0
     try clear c5b1
     try clear p6
     try clear q6
     try clear hx6
     try clear qi6
     try clear c7
     try clear p2
     try clear p6
     try clear q6
     obtain ⟨x3_2, x19_2, rfl, rfl, HA, HK2, ⟨m2, rfl⟩⟩ := hrel
     cases gk with
     | zero => exact absurd HA.out (by simp [span_number.l0])
     | succ k2 =>
      have H := HA.out
      clear HA
      simp only [span_number.l0] at H
      by_cases c8 : x19_2 < (a0.size : Int)
      ·rw [if_pos c8] at H
       have c8b0 : decide (x19_2 < (a0.size : Int)) = true := decide_eq_true c8
       clear c8
       by_cases c9 : 0 ≤ x19_2
       ·rw [if_pos c9] at H
        have c9b0 : decide (0 ≤ x19_2) = true := decide_eq_true c9
        clear c9
        by_cases c10 : x19_2 < (a0.size : Int)
        ·rw [if_pos c10] at H
         have c10b0 : decide (x19_2 < (a0.size : Int)) = true := decide_eq_true c10
         clear c10
         by_cases c12 : (bt a0 x19_2) < 48
         ·rw [if_pos c12] at H
          have c12b0 : decide ((bt a0 x19_2) < 48) = true := decide_eq_true c12
          clear c12
          obtain rfl := Option.some.inj H
          have p11 : 0 ≤ (x19_2 : Int) := of_decide_eq_true (by first | (with_reducible assumption) | assumption)
          have q11 : x19_2 < (a0.size : Int) := of_decide_eq_true (by first | (with_reducible assumption) | assumption)
          have hx11 := bt_at a0 x19_2
          replace p11 := eq_true p11
          replace q11 := eq_true q11
          go_wp2
          go_ret
          exact ⟨by first | rfl | (simp; done) | (simp [*]; done), by repeat (first | exact Drawn0.refl _ | apply Drawn0.step)⟩
         ·rw [if_neg c12] at H
          have c12b0 : decide ((bt a0 x19_2) < 48) = false := decide_eq_false c12
          clear c12
          by_cases c14 : (bt a0 x19_2) > 57
          ·rw [if_pos c14] at H
           have c14b0 : decide (57 < (bt a0 x19_2)) = true := decide_eq_true c14
           clear c14
           obtain rfl := Option.some.inj H
           have p11 : 0 ≤ (x19_2 : Int) := of_decide_eq_true (by first | (with_reducible assumption) | assumption)
           have q11 : x19_2 < (a0.size : Int) := of_decide_eq_true (by first | (with_reducible assumption) | assumption)
           have hx11 := bt_at a0 x19_2
           replace p11 := eq_true p11
           replace q11 := eq_true q11
           have p13 : 0 ≤ (x19_2 : Int) := of_decide_eq_true (by first | (with_reducible assumption) | assumption)
           have q13 : x19_2 < (a0.size : Int) := of_decide_eq_true (by first | (with_reducible assumption) | assumption)
           have hx13 := bt_at a0 x19_2
           replace p13 := eq_true p13
           replace q13 := eq_true q13
           go_wp2
           go_ret
           exact ⟨by first | rfl | (simp; done) | (simp [*]; done), by repeat (first | exact Drawn0.refl _ | apply Drawn0.step)⟩
          ·rw [if_neg c14] at H
           have c14b0 : decide (57 < (bt a0 x19_2)) = false := decide_eq_false c14
           clear c14
           have H' := Aside0.mk H
           clear H
           have p11 : 0 ≤ (x19_2 : Int) := of_decide_eq_true (by first | (with_reducible assumption) | assumption)
           have q11 : x19_2 < (a0.size : Int) := of_decide_eq_true (by first | (with_reducible assumption) | assumption)
           have hx11 := bt_at a0 x19_2
           replace p11 := eq_true p11
           replace q11 := eq_true q11
           have p13 : 0 ≤ (x19_2 : Int) := of_decide_eq_true (by first | (with_reducible assumption) | assumption)
           have q13 : x19_2 < (a0.size : Int) := of_decide_eq_true (by first | (with_reducible assumption) | assumption)
           have hx13 := bt_at a0 x19_2
           replace p13 := eq_true p13
           replace q13 := eq_true q13
           have p15 : 0 ≤ (x19_2 : Int) := of_decide_eq_true (by first | (with_reducible assumption) | assumption)
           have q15 : x19_2 < (a0.size : Int) := of_decide_eq_true (by first | (with_reducible assumption) | assumption)
           have hx15 := bt_at a0 x19_2
           replace p15 := eq_true p15
           replace q15 := eq_true q15
           go_wp2
           go_roundg k2
           case measure => have := HJ1.out; have := HK2.out; omega
           case rel => exact ⟨(wrap64 ((wrap64 (10 * x3_2)) + (((bt a0 x19_2) - 48) % 256))), (wrap64 (x19_2 + 1)), (by first | rfl | (simp; done) | (simp [*]; done)), (by first | rfl | (simp; done) | (simp [*]; done)), H', ⟨by have := HJ1.out; have := HK2.out; omega⟩, by repeat (first | exact Drawn0.refl _ | apply Drawn0.step)⟩
        ·rw [if_neg c10] at H
         exact absurd H (by simp)
       ·rw [if_neg c9] at H
        exact absurd H (by simp)
      ·rw [if_neg c8] at H
       have c8b0 : decide (x19_2 < (a0.size : Int)) = false := decide_eq_false c8
       clear c8
       by_cases c16 : x3_2 > 1000000000
       ·rw [if_pos c16] at H
        have c16b0 : decide (1000000000 < x3_2) = true := decide_eq_true c16
        clear c16
        obtain rfl := Option.some.inj H
        go_wp2
        go_ret
        exact ⟨by first | rfl | (simp; done) | (simp [*]; done), by repeat (first | exact Drawn0.refl _ | apply Drawn0.step)⟩
       ·rw [if_neg c16] at H
        have c16b0 : decide (1000000000 < x3_2) = false := decide_eq_false c16
        clear c16
        obtain rfl := Option.some.inj H
        go_wp2
        go_ret
        exact ⟨by first | rfl | (simp; done) | (simp [*]; done), by repeat (first | exact Drawn0.refl _ | apply Drawn0.step)⟩

end Go.Proofs.YtlmdcpooogaolaaDoor.G

/- Plain theory of lists of runs: the set that a list means, the list in form, the union as the program makes it, how many numbers there are. -/
namespace Go.Proofs.YtlmdcpooogaolaaDoor.Pure
open Go.Proofs.YtlmdcpooogaolaaDoor.G
set_option linter.unusedVariables false
/-- n is in the set that the list means. -/
def Mem (l : List S32) (n : Int) : Prop := 1 ≤ n ∧ n ≤ 1000000000 ∧ ∃ r ∈ l, r.f0 ≤ n ∧ n ≤ r.f1
def NormFrom : Int → List S32 → Prop
  | _, [] => True
  | last, r :: t => last + 2 ≤ r.f0 ∧ r.f0 ≤ r.f1 ∧ r.f1 ≤ 1000000000 ∧ NormFrom r.f1 t
def Norm (l : List S32) : Prop := NormFrom (-1) l

theorem mem_nil (n : Int) : ¬ Mem [] n := by simp [Mem]
theorem mem_cons (r : S32) (t : List S32) (n : Int) : Mem (r :: t) n ↔ (1 ≤ n ∧ n ≤ 1000000000 ∧ r.f0 ≤ n ∧ n ≤ r.f1) ∨ Mem t n := by
  simp only [Mem, List.mem_cons]
  constructor
  · rintro ⟨h1, h2, x, rfl | hx, h3, h4⟩
    · exact .inl ⟨h1, h2, h3, h4⟩
    · exact .inr ⟨h1, h2, x, hx, h3, h4⟩
  · rintro (⟨h1, h2, h3, h4⟩ | ⟨h1, h2, x, hx, h3, h4⟩)
    · exact ⟨h1, h2, r, .inl rfl, h3, h4⟩
    · exact ⟨h1, h2, x, .inr hx, h3, h4⟩
theorem mem_append (a b : List S32) (n : Int) : Mem (a ++ b) n ↔ Mem a n ∨ Mem b n := by
  induction a with
  | nil => simp [mem_nil]
  | cons r t ih => rw [List.cons_append, mem_cons, mem_cons, ih, or_assoc]
theorem NormFrom.low {l : List S32} : ∀ {last : Int}, NormFrom last l → ∀ {n}, Mem l n → last + 2 ≤ n := by
  induction l with
  | nil => intro last _ n h; exact absurd h (mem_nil n)
  | cons r t ih =>
    intro last h n hn
    obtain ⟨h1, h2, h3, h4⟩ := h
    rcases (mem_cons r t n).1 hn with ⟨_, _, h5, h6⟩ | h5
    · omega
    · have := ih h4 h5; omega
theorem NormFrom.mono {l : List S32} {a b : Int} (hab : b ≤ a) (h : NormFrom a l) : NormFrom b l := by
  cases l with
  | nil => trivial
  | cons r t => obtain ⟨h1, h2, h3, h4⟩ := h; exact ⟨by omega, h2, h3, h4⟩
theorem mem_tail {r : S32} {t : List S32} {last : Int} (hl : -1 ≤ last) (h : NormFrom last (r :: t)) (n : Int) : Mem t n ↔ Mem (r :: t) n ∧ r.f1 < n := by
  obtain ⟨h1, h2, h3, h4⟩ := h
  rw [mem_cons]
  constructor
  · intro hn; have := h4.low hn; exact ⟨.inr hn, by omega⟩
  · rintro ⟨⟨_, _, _, h6⟩ | h5, h7⟩
    · omega
    · exact h5
theorem head_mem {r : S32} {t : List S32} {last : Int} (hl : -1 ≤ last) (h : NormFrom last (r :: t)) {n : Int} (h5 : r.f0 ≤ n) (h6 : n ≤ r.f1) : Mem (r :: t) n := by
  obtain ⟨h1, h2, h3, h4⟩ := h
  exact (mem_cons _ _ _).2 (.inl ⟨by omega, by omega, h5, h6⟩)
theorem head_least {r : S32} {t : List S32} {last : Int} (h : NormFrom last (r :: t)) {n : Int} (hn : Mem (r :: t) n) : r.f0 ≤ n := by
  obtain ⟨h1, h2, h3, h4⟩ := h
  rcases (mem_cons r t n).1 hn with ⟨_, _, h5, h6⟩ | h5
  · exact h5
  · have := h4.low h5; omega
theorem head_hole {r : S32} {t : List S32} {last : Int} (h : NormFrom last (r :: t)) : ¬ Mem (r :: t) (r.f1 + 1) := by
  obtain ⟨h1, h2, h3, h4⟩ := h
  intro hn
  rcases (mem_cons r t _).1 hn with ⟨_, _, h5, h6⟩ | h5
  · omega
  · have := h4.low h5; omega
theorem NormFrom.unique {a : List S32} : ∀ {b : List S32} {last : Int}, -1 ≤ last → NormFrom last a → NormFrom last b → (∀ n, Mem a n ↔ Mem b n) → a = b := by
  induction a with
  | nil =>
    intro b last hl ha hb h
    cases b with
    | nil => rfl
    | cons r t => exact absurd ((h r.f0).2 (head_mem hl hb (Int.le_refl _) hb.2.1)) (mem_nil _)
  | cons r t ih =>
    intro b last hl ha hb h
    cases b with
    | nil => exact absurd ((h r.f0).1 (head_mem hl ha (Int.le_refl _) ha.2.1)) (mem_nil _)
    | cons s u =>
      have e1 : r.f0 = s.f0 := by
        have := head_least hb ((h r.f0).1 (head_mem hl ha (Int.le_refl _) ha.2.1))
        have := head_least ha ((h s.f0).2 (head_mem hl hb (Int.le_refl _) hb.2.1))
        omega
      have e2 : r.f1 = s.f1 := by
        have ha' := ha; have hb' := hb
        obtain ⟨a1, a2, a3, a4⟩ := ha'
        obtain ⟨b1, b2, b3, b4⟩ := hb'
        rcases Int.lt_trichotomy r.f1 s.f1 with hlt | he | hgt
        · exact absurd ((h (r.f1 + 1)).2 (head_mem hl hb (by omega) (by omega))) (head_hole ha)
        · exact he
        · exact absurd ((h (s.f1 + 1)).1 (head_mem hl ha (by omega) (by omega))) (head_hole hb)
      have e : r = s := by cases r; cases s; simp_all
      subst e
      have ht : t = u := ih (last := r.f1) (by have := ha.1; have := ha.2.1; omega) ha.2.2.2 hb.2.2.2 (fun n => by rw [mem_tail hl ha, mem_tail hl hb, h n])
      rw [ht]

/-- The list is in form, and means P. -/
def Rep (l : List S32) (P : Int → Prop) : Prop := Norm l ∧ ∀ n, Mem l n ↔ P n
theorem Rep.unique {a b : List S32} {P : Int → Prop} (ha : Rep a P) (hb : Rep b P) : a = b :=
  NormFrom.unique (by omega) ha.1 hb.1 (fun n => (ha.2 n).trans (hb.2 n).symm)
theorem Rep.of {l : List S32} {P Q : Int → Prop} (h : Rep l P) (e : ∀ n, P n ↔ Q n) : Rep l Q := ⟨h.1, fun n => (h.2 n).trans (e n)⟩
theorem Rep.self {l : List S32} (h : Norm l) : Rep l (Mem l) := ⟨h, fun _ => Iff.rfl⟩

/-! ### Building a list in form at its end -/
def hiOf (last : Int) (l : List S32) : Int := l.foldl (fun _ r => r.f1) last
theorem hiOf_cons (last : Int) (r : S32) (t : List S32) : hiOf last (r :: t) = hiOf r.f1 t := rfl
theorem hiOf_snoc (last : Int) (l : List S32) (r : S32) : hiOf last (l ++ [r]) = r.f1 := by simp [hiOf]
theorem normFrom_snoc (l : List S32) (x : S32) : ∀ last, NormFrom last (l ++ [x]) ↔ NormFrom last l ∧ hiOf last l + 2 ≤ x.f0 ∧ x.f0 ≤ x.f1 ∧ x.f1 ≤ 1000000000 := by
  induction l with
  | nil => intro last; simp [NormFrom, hiOf]
  | cons r t ih => intro last; simp only [List.cons_append, NormFrom, ih, hiOf_cons]; constructor <;> (intro h; obtain ⟨h1, h2, h3, h4⟩ := h; simp_all)
theorem mem_snoc (l : List S32) (x : S32) (n : Int) : Mem (l ++ [x]) n ↔ Mem l n ∨ (1 ≤ n ∧ n ≤ 1000000000 ∧ x.f0 ≤ n ∧ n ≤ x.f1) := by
  rw [mem_append, mem_cons]; simp [mem_nil]
/-! ### The program's union: clip, sort by Lo, add one by one -/
def Good (r : S32) : Prop := 1 ≤ r.f0 ∧ r.f0 ≤ r.f1 ∧ r.f1 ≤ 1000000000
def clipS (r : S32) : S32 := ⟨if r.f0 < 1 then 1 else r.f0, if 1000000000 < r.f1 then 1000000000 else r.f1⟩
def okB (r : S32) : Bool := decide ((clipS r).f0 ≤ (clipS r).f1)
def clips (l : List S32) : List S32 := (l.filter okB).map clipS
def addS (out : List S32) (r : S32) : List S32 :=
  match out.getLast? with
  | none => [r]
  | some x => if r.f0 ≤ x.f1 + 1 then out.dropLast ++ [⟨x.f0, if x.f1 < r.f1 then r.f1 else x.f1⟩] else out ++ [r]
def foldS (l : List S32) : List S32 := l.foldl addS []
theorem clips_good (l : List S32) : ∀ r ∈ clips l, Good r := by
  intro r hr
  simp only [clips, List.mem_map, List.mem_filter] at hr
  obtain ⟨a, ⟨_, h2⟩, rfl⟩ := hr
  simp only [okB, decide_eq_true_eq] at h2
  unfold Good clipS at *
  simp only at *
  split at h2 <;> split at h2 <;> simp_all <;> omega
theorem mem_clips (l : List S32) (n : Int) : Mem (clips l) n ↔ Mem l n := by
  induction l with
  | nil => simp [clips]
  | cons r t ih =>
    rw [mem_cons, ← ih]
    unfold clips
    rw [List.filter_cons]
    split
    · rename_i h
      rw [List.map_cons, mem_cons]
      refine or_congr ?_ Iff.rfl
      unfold clipS
      constructor <;> (rintro ⟨h1, h2, h3, h4⟩; simp only at *; refine ⟨h1, h2, ?_, ?_⟩ <;> (try split at h3) <;> (try split at h4) <;> (try split) <;> omega)
    · rename_i h
      constructor
      · exact .inr
      · rintro (⟨h1, h2, h3, h4⟩ | h)
        · exfalso
          apply h
          unfold okB clipS
          simp only [decide_eq_true_eq]
          split <;> split <;> omega
        · exact h
theorem addS_snoc (o : List S32) (x r : S32) : addS (o ++ [x]) r = if r.f0 ≤ x.f1 + 1 then o ++ [⟨x.f0, if x.f1 < r.f1 then r.f1 else x.f1⟩] else (o ++ [x]) ++ [r] := by
  unfold addS
  simp
/-- The loop's invariant: what is out is in form, and its last run begins at or below what comes. -/
theorem foldS_from (l : List S32) : ∀ (o : List S32) (x : S32), NormFrom (-1) (o ++ [x]) → (∀ r ∈ l, Good r ∧ x.f0 ≤ r.f0) → l.Pairwise (fun a b => a.f0 ≤ b.f0) →
    Rep (l.foldl addS (o ++ [x])) (fun n => Mem (o ++ [x]) n ∨ Mem l n) := by
  induction l with
  | nil => intro o x h _ _; exact ⟨h, fun n => by simp [mem_nil]⟩
  | cons r t ih =>
    intro o x h hg hp
    obtain ⟨⟨g1, g2, g3⟩, g4⟩ := hg r (by simp)
    have hpt := (List.pairwise_cons.1 hp)
    obtain ⟨n1, n2, n3, n4⟩ := (normFrom_snoc o x _).1 h
    rw [List.foldl_cons, addS_snoc]
    split
    · rename_i hle
      have hn : NormFrom (-1) (o ++ [(⟨x.f0, if x.f1 < r.f1 then r.f1 else x.f1⟩ : S32)]) := by
        rw [normFrom_snoc]; refine ⟨n1, n2, ?_, ?_⟩ <;> (simp only; split <;> omega)
      refine (ih o _ hn (fun s hs => ⟨(hg s (by simp [hs])).1, (hg s (by simp [hs])).2⟩) hpt.2).of (fun n => ?_)
      rw [mem_snoc, mem_snoc, mem_cons]
      have : (1 ≤ n ∧ n ≤ 1000000000 ∧ x.f0 ≤ n ∧ n ≤ (if x.f1 < r.f1 then r.f1 else x.f1)) ↔ (1 ≤ n ∧ n ≤ 1000000000 ∧ x.f0 ≤ n ∧ n ≤ x.f1) ∨ (1 ≤ n ∧ n ≤ 1000000000 ∧ r.f0 ≤ n ∧ n ≤ r.f1) := by
        split <;> omega
      rw [this]
      constructor
      · rintro ((h | h | h) | h) <;> simp [h]
      · rintro ((h | h) | h | h) <;> simp [h]
    · rename_i hgt
      have hn : NormFrom (-1) ((o ++ [x]) ++ [r]) := by
        rw [normFrom_snoc, hiOf_snoc]; exact ⟨h, by omega, g2, g3⟩
      refine (ih (o ++ [x]) r hn (fun s hs => ⟨(hg s (by simp [hs])).1, hpt.1 s hs⟩) hpt.2).of (fun n => ?_)
      rw [mem_snoc (o ++ [x]) r, mem_cons]
      constructor
      · rintro ((h | h) | h) <;> simp [h]
      · rintro (h | h | h) <;> simp [h]
theorem foldS_rep (l : List S32) (hg : ∀ r ∈ l, Good r) (hp : l.Pairwise (fun a b => a.f0 ≤ b.f0)) : Rep (foldS l) (Mem l) := by
  cases l with
  | nil => exact ⟨trivial, fun n => Iff.rfl⟩
  | cons r t =>
    have hpt := (List.pairwise_cons.1 hp)
    obtain ⟨g1, g2, g3⟩ := hg r (by simp)
    refine (foldS_from t [] r ⟨by omega, g2, g3, trivial⟩ (fun s hs => ⟨hg s (by simp [hs]), hpt.1 s hs⟩) hpt.2).of (fun n => ?_)
    rw [List.nil_append, mem_cons, mem_cons]
    simp [mem_nil]
/-- The set's own form. -/
def canon (l : List S32) : List S32 := foldS ((clips l).mergeSort (fun a b => decide (a.f0 ≤ b.f0)))
theorem mem_perm {a b : List S32} (h : a.Perm b) (n : Int) : Mem a n ↔ Mem b n := by
  unfold Mem
  constructor <;> (rintro ⟨h1, h2, r, hr, h3⟩; refine ⟨h1, h2, r, ?_, h3⟩)
  · exact h.mem_iff.1 hr
  · exact h.mem_iff.2 hr
theorem canon_rep (l : List S32) : Rep (canon l) (Mem l) := by
  have hp := List.mergeSort_perm (clips l) (fun a b => decide (a.f0 ≤ b.f0))
  refine (foldS_rep _ (fun r hr => clips_good l r (hp.mem_iff.1 hr)) ?_).of (fun n => (mem_perm hp n).trans (mem_clips l n))
  have := List.pairwise_mergeSort (le := fun a b : S32 => decide (a.f0 ≤ b.f0)) (fun a b c h1 h2 => by simp at *; omega) (fun a b => by simp; omega) (clips l)
  exact this.imp (fun h => by simpa using h)
/-- Whatever sorted order of the clipped runs gives the same list. -/
theorem foldS_canon (l s : List S32) (hp : s.Perm (clips l)) (hs : s.Pairwise (fun a b => a.f0 ≤ b.f0)) : foldS s = canon l :=
  Rep.unique ((foldS_rep s (fun r hr => clips_good l r (hp.mem_iff.1 hr)) hs).of (fun n => (mem_perm hp n).trans (mem_clips l n))) (canon_rep l)
theorem canon_of {l : List S32} {P : Int → Prop} (h : Rep l P) (m : List S32) (e : ∀ n, Mem m n ↔ P n) : canon m = l := Rep.unique ((canon_rep m).of e) h
/-! ### The set by yes and no, and how many numbers it has -/
def card (P : Int → Bool) : Nat → Int
  | 0 => 0
  | n + 1 => card P n + (if P ((n : Int) + 1) = true then 1 else 0)
theorem NormFrom.len {l : List S32} : ∀ {last : Int}, last ≤ 1000000000 → NormFrom last l → 2 * (l.length : Int) ≤ 1000000000 - last := by
  induction l with
  | nil => intro last hl _; simp; omega
  | cons r t ih =>
    intro last hl h
    obtain ⟨h1, h2, h3, h4⟩ := h
    have := ih h3 h4
    simp only [List.length_cons]
    omega
theorem Norm.len {l : List S32} (h : Norm l) : l.length ≤ 500000000 := by have := NormFrom.len (by omega) h; omega
theorem canon_norm' (l : List S32) : Norm (canon l) := (canon_rep l).1
end Go.Proofs.YtlmdcpooogaolaaDoor.Pure

/- Small words for printed span functions: numbers, rows, rounds. -/
namespace Go.Proofs.YtlmdcpooogaolaaDoor.Pure
open Go.RowKit Go.Proofs.YtlmdcpooogaolaaDoor.G Go.Proofs.YtlmdcpooogaolaaDoorW.PrintWords Go.Proofs.YtlmdcpooogaolaaDoorW.PrintLast Go.Proofs.YtlmdcpooogaolaaDoorW.PrintMore
set_option linter.unusedVariables false
theorem w64 {x : Int} (h1 : -9223372036854775808 ≤ x) (h2 : x < 9223372036854775808) : wrap64 x = x := by unfold wrap64; omega
theorem w64_nat (n : Nat) (h : n < 4611686018427387904) : wrap64 ((n : Int) + 1) = ((n + 1 : Nat) : Int) := by unfold wrap64; omega
theorem rdT (pre suf : List S32) (r : S32) : rd_T32 (pre ++ r :: suf) (pre.length : Int) = r := by
  unfold rd_T32
  rw [Int.toNat_natCast, List.getD_eq_getElem?_getD, List.getElem?_append_right (Nat.le_refl _), Nat.sub_self]
  rfl
theorem Ev.succ {α : Type} {g : Nat → Option α} {r : α} (h : Ev (fun k => g (k + 1)) r) : Ev g r := Ev.step (f := fun k => g (k + 1)) (fun _ => rfl) h
abbrev Fit (l : List S32) : Prop := l.length ≤ 8796093022208
theorem rdL (pre suf : List (List S32)) (r : List S32) : rd_L2 (pre ++ r :: suf) (pre.length : Int) = r := by
  unfold rd_L2
  rw [Int.toNat_natCast, List.getD_eq_getElem?_getD, List.getElem?_append_right (Nat.le_refl _), Nat.sub_self]
  rfl
end Go.Proofs.YtlmdcpooogaolaaDoor.Pure

-- PRINTED by print.py (a twelfth state) out of the translation. Not trusted: Lean checks it.
namespace Go.Proofs.YtlmdcpooogaolaaDoor.G
open Go.RowKit Go.Proofs.YtlmdcpooogaolaaDoorW.PrintWords Go.Proofs.YtlmdcpooogaolaaDoorW.PrintLast Go.Proofs.YtlmdcpooogaolaaDoorW.PrintMore
attribute [local go_sem] max2_int min2_int max_two min_two max_three min_three max_four min_four   -- for this text's walks alone
set_option linter.unusedVariables false
set_option linter.unusedSimpArgs false

/-! ### span_IsNorm: function 12 -/
def span_IsNorm.l0 : Nat → Int → List (S32) → Int → Int → Option (Bool)
 | 0, _, _, _, _ => none
 | k + 1, x3, x6, x7, x8 => if x8 < x7 then (if 0 ≤ x8 then (if x8 < (x6.length : Int) then (if ((rd_T32 x6 x8).f0) < 1 then (some false) else (if ((rd_T32 x6 x8).f0) > ((rd_T32 x6 x8).f1) then (some false) else (if ((rd_T32 x6 x8).f1) > 1000000000 then (some false) else (if ((rd_T32 x6 x8).f0) < (wrap64 (x3 + 2)) then (some false) else (span_IsNorm.l0 k ((rd_T32 x6 x8).f1) x6 x7 (wrap64 (x8 + 1))))))) else (none)) else (none)) else (some true)
def span_IsNorm.f (k : Nat) (l0 : List (S32)) : Option (Bool) := span_IsNorm.l0 k (-1) l0 (l0.length : Int) 0
theorem span_IsNorm.mono_l : ∀ k, (∀ y0 y1 y2 y3, LeO (span_IsNorm.l0 k y0 y1 y2 y3) (span_IsNorm.l0 (k + 1) y0 y1 y2 y3))
 | 0 => fun _ _ _ _ r h => by simp [span_IsNorm.l0] at h
 | k + 1 => by
  have ih0 := span_IsNorm.mono_l k
  ·intro y0 y1 y2 y3
   unfold span_IsNorm.l0
   repeat' first
   | (with_reducible exact ih0 _ _ _ _)
   | (with_reducible exact LeO.refl _)
   | (with_reducible exact LeO.none _)
   | (with_reducible refine LeO.ite ?_ ?_)
   | (with_reducible refine LeO.bind ?_ (fun _ => ?_))
   | exact ih0 _ _ _ _
   | exact LeO.none _
   | refine LeO.ite ?_ ?_
   | refine LeO.bind ?_ (fun _ => ?_)
theorem span_IsNorm.mono : ∀ a0 k, LeO (span_IsNorm.f k a0) (span_IsNorm.f (k + 1) a0) := by
 intro a0 k
 have ih0 := span_IsNorm.mono_l k
 unfold span_IsNorm.f
 repeat' first
   | (with_reducible exact ih0 _ _ _ _)
   | (with_reducible exact LeO.refl _)
   | (with_reducible exact LeO.none _)
   | (with_reducible refine LeO.ite ?_ ?_)
   | (with_reducible refine LeO.bind ?_ (fun _ => ?_))
   | exact ih0 _ _ _ _
   | exact LeO.none _
   | refine LeO.ite ?_ ?_
   | refine LeO.bind ?_ (fun _ => ?_)
set_option maxHeartbeats 8000000 in
set_option maxRecDepth 100000 in
theorem span_IsNorm.calls (k : Nat) (A0 : Option Addr) (c0 : Nat) (l0 : List (S32)) (r : Bool) (w : World) (hr0 : Kd.C k32 w A0 l0.length l0) (hc0 : l0.length ≤ c0) (h : span_IsNorm.f k l0 = some r) :
  Calls Tryd.prog 12 #[.slice A0 l0.length c0] w fun e w' => e = .returned (.bool r) ∧ Below w.heap.size w w' := by
 have hu32 := Tryd.underlying32
 have HR0 := Aside0.mk hr0
 have HC0 := Aside0.mk hc0
 clear hr0 hc0
 have HB := Aside0.mk (Below.refl w.heap.size w)
 have H : (span_IsNorm.l0 k (-1) l0 (l0.length : Int) 0) = some r := h
 clear h
 have H' := Aside0.mk H
 clear H
 go_enter Tryd.func12, Tryd.ntmps12
 go_wp2
 go_loopg [3, 8] k (fun kq v3 v8 w' => ∃ (x3_1 : Int) (x8_1 : Int), v3 = .int .i64 x3_1 ∧ v8 = .int .i64 x8_1 ∧ Aside0 (span_IsNorm.l0 kq x3_1 l0 (l0.length : Int) x8_1 = some r) ∧ Aside0 (kq ≤ k) ∧ Aside0 (Below w.heap.size w w'))
 case atStart => exact ⟨((-1)), (0), (by first | rfl | (simp; done) | (simp [*]; done)), (by first | rfl | (simp; done) | (simp [*]; done)), H', ⟨Nat.le_refl _⟩, ⟨by repeat (first | (with_reducible first | exact HB.out | apply below_alloc | apply pw_below_drewN | apply below_drew1) | exact HB.out)⟩⟩
 case round =>
  clear H'
  try clear c1
  obtain ⟨x3_1, x8_1, rfl, rfl, HA, HK1, HB⟩ := hrel
  cases gk with
  | zero => exact absurd HA.out (by simp [span_IsNorm.l0])
  | succ k1 =>
   have H := HA.out
   clear HA
   simp only [span_IsNorm.l0] at H
   by_cases c2 : x8_1 < (l0.length : Int)
   ·rw [if_pos c2] at H
    have c2b0 : decide (x8_1 < (l0.length : Int)) = true := decide_eq_true c2
    clear c2
    by_cases c3 : 0 ≤ x8_1
    ·rw [if_pos c3] at H
     have c3b0 : decide (0 ≤ x8_1) = true := decide_eq_true c3
     clear c3
     by_cases c4 : x8_1 < (l0.length : Int)
     ·rw [if_pos c4] at H
      have c4b0 : decide (x8_1 < (l0.length : Int)) = true := decide_eq_true c4
      clear c4
      by_cases c5 : ((rd_T32 l0 x8_1).f0) < 1
      ·rw [if_pos c5] at H
       have c5b0 : decide (((rd_T32 l0 x8_1).f0) < 1) = true := decide_eq_true c5
       clear c5
       obtain rfl := Option.some.inj H
       have p294 : 0 ≤ (x8_1 : Int) := of_decide_eq_true (by first | (with_reducible assumption) | assumption)
       have q294 : x8_1 < (l0.length : Int) := of_decide_eq_true (by first | (with_reducible assumption) | assumption)
       obtain ⟨ad294, e294, hx294_0, hx294_1⟩ := at_T32 HR0.out x8_1 p294 q294
       cases e294
       replace hx294_0 := (HB.out.cell (World.block_lt_of_cell? w _ hx294_0)).trans hx294_0
       replace hx294_1 := (HB.out.cell (World.block_lt_of_cell? w _ hx294_1)).trans hx294_1
       replace p294 := eq_true p294
       replace q294 := eq_true q294
       go_wp2_with (first | ((with_reducible refine gate_dst (N := 5) rfl ?_); refine box_event ?hg (N := 5) ?hd (cs := #[.int .i64 0, .int .i64 0]) (t := 32) ?hr ?_; (case hd => rfl); (case hg => rfl); (case hr => first | (go_simp; done) | (go_simp; rfl)); intro gb295 hg w6 hbox hb; have n0_ := Aside0.mk (below_step (by repeat (first | (with_reducible first | exact HB.out | apply below_alloc | apply pw_below_drewN | apply below_drew1) | exact HB.out)) hb); have n1_ := Aside0.mk (hbox); have n2_ := Aside0.mk ((by rw [hg]; exact (below_size (by repeat (first | (with_reducible first | exact HB.out | apply below_alloc | apply pw_below_drewN | apply below_drew1) | exact HB.out))) : w.heap.size ≤ gb295)); have n3_ := Aside0.mk ((by rw [hg]; exact (below_size (by repeat (first | (with_reducible first | exact HB.out | apply below_alloc | apply pw_below_drewN | apply below_drew1) | exact HB.out))) : w.heap.size ≤ gb295)); clear HB; have HB := n0_; have BK295 := n1_; have GW295 := n2_; have GE295 := n3_; clear n0_ n1_ n2_ n3_; clear hb hbox hg; have hcz7_0 : w6.cell? ⟨gb295, 0, none⟩ = some (.int .i64 0) := (blk_cell BK295.out 0).trans rfl; have hcz7_1 : w6.cell? ⟨gb295, 1, none⟩ = some (.int .i64 0) := (blk_cell BK295.out 1).trans rfl; have hfz7_0 := blk_frozen BK295.out 0; have hfz7_1 := blk_frozen BK295.out 1))
       go_ret
       exact ⟨by first | rfl | (simp [errW_none, errW_some] <;> rfl) | (simp [*, errW_none, errW_some] <;> rfl), by repeat (first | (with_reducible first | exact HB.out | apply below_alloc | apply pw_below_drewN | apply below_drew1 | refine below_set ?_ GE295.out) | exact HB.out)⟩
      ·rw [if_neg c5] at H
       have c5b0 : decide (((rd_T32 l0 x8_1).f0) < 1) = false := decide_eq_false c5
       clear c5
       by_cases c8 : ((rd_T32 l0 x8_1).f0) > ((rd_T32 l0 x8_1).f1)
       ·rw [if_pos c8] at H
        have c8b0 : decide (((rd_T32 l0 x8_1).f1) < ((rd_T32 l0 x8_1).f0)) = true := decide_eq_true c8
        clear c8
        obtain rfl := Option.some.inj H
        have p294 : 0 ≤ (x8_1 : Int) := of_decide_eq_true (by first | (with_reducible assumption) | assumption)
        have q294 : x8_1 < (l0.length : Int) := of_decide_eq_true (by first | (with_reducible assumption) | assumption)
        obtain ⟨ad294, e294, hx294_0, hx294_1⟩ := at_T32 HR0.out x8_1 p294 q294
        cases e294
        replace hx294_0 := (HB.out.cell (World.block_lt_of_cell? w _ hx294_0)).trans hx294_0
        replace hx294_1 := (HB.out.cell (World.block_lt_of_cell? w _ hx294_1)).trans hx294_1
        replace p294 := eq_true p294
        replace q294 := eq_true q294
        go_wp2_with (first | ((with_reducible refine gate_dst (N := 5) rfl ?_); refine box_event ?hg (N := 5) ?hd (cs := #[.int .i64 0, .int .i64 0]) (t := 32) ?hr ?_; (case hd => rfl); (case hg => rfl); (case hr => first | (go_simp; done) | (go_simp; rfl)); intro gb295 hg w9 hbox hb; have n0_ := Aside0.mk (below_step (by repeat (first | (with_reducible first | exact HB.out | apply below_alloc | apply pw_below_drewN | apply below_drew1) | exact HB.out)) hb); have n1_ := Aside0.mk (hbox); have n2_ := Aside0.mk ((by rw [hg]; exact (below_size (by repeat (first | (with_reducible first | exact HB.out | apply below_alloc | apply pw_below_drewN | apply below_drew1) | exact HB.out))) : w.heap.size ≤ gb295)); have n3_ := Aside0.mk ((by rw [hg]; exact (below_size (by repeat (first | (with_reducible first | exact HB.out | apply below_alloc | apply pw_below_drewN | apply below_drew1) | exact HB.out))) : w.heap.size ≤ gb295)); clear HB; have HB := n0_; have BK295 := n1_; have GW295 := n2_; have GE295 := n3_; clear n0_ n1_ n2_ n3_; clear hb hbox hg; have hcz10_0 : w9.cell? ⟨gb295, 0, none⟩ = some (.int .i64 0) := (blk_cell BK295.out 0).trans rfl; have hcz10_1 : w9.cell? ⟨gb295, 1, none⟩ = some (.int .i64 0) := (blk_cell BK295.out 1).trans rfl; have hfz10_0 := blk_frozen BK295.out 0; have hfz10_1 := blk_frozen BK295.out 1))
        go_ret
        exact ⟨by first | rfl | (simp [errW_none, errW_some] <;> rfl) | (simp [*, errW_none, errW_some] <;> rfl), by repeat (first | (with_reducible first | exact HB.out | apply below_alloc | apply pw_below_drewN | apply below_drew1 | refine below_set ?_ GE295.out) | exact HB.out)⟩
       ·rw [if_neg c8] at H
        have c8b0 : decide (((rd_T32 l0 x8_1).f1) < ((rd_T32 l0 x8_1).f0)) = false := decide_eq_false c8
        clear c8
        by_cases c11 : ((rd_T32 l0 x8_1).f1) > 1000000000
        ·rw [if_pos c11] at H
         have c11b0 : decide (1000000000 < ((rd_T32 l0 x8_1).f1)) = true := decide_eq_true c11
         clear c11
         obtain rfl := Option.some.inj H
         have p294 : 0 ≤ (x8_1 : Int) := of_decide_eq_true (by first | (with_reducible assumption) | assumption)
         have q294 : x8_1 < (l0.length : Int) := of_decide_eq_true (by first | (with_reducible assumption) | assumption)
         obtain ⟨ad294, e294, hx294_0, hx294_1⟩ := at_T32 HR0.out x8_1 p294 q294
         cases e294
         replace hx294_0 := (HB.out.cell (World.block_lt_of_cell? w _ hx294_0)).trans hx294_0
         replace hx294_1 := (HB.out.cell (World.block_lt_of_cell? w _ hx294_1)).trans hx294_1
         replace p294 := eq_true p294
         replace q294 := eq_true q294
         go_wp2_with (first | ((with_reducible refine gate_dst (N := 5) rfl ?_); refine box_event ?hg (N := 5) ?hd (cs := #[.int .i64 0, .int .i64 0]) (t := 32) ?hr ?_; (case hd => rfl); (case hg => rfl); (case hr => first | (go_simp; done) | (go_simp; rfl)); intro gb295 hg w12 hbox hb; have n0_ := Aside0.mk (below_step (by repeat (first | (with_reducible first | exact HB.out | apply below_alloc | apply pw_below_drewN | apply below_drew1) | exact HB.out)) hb); have n1_ := Aside0.mk (hbox); have n2_ := Aside0.mk ((by rw [hg]; exact (below_size (by repeat (first | (with_reducible first | exact HB.out | apply below_alloc | apply pw_below_drewN | apply below_drew1) | exact HB.out))) : w.heap.size ≤ gb295)); have n3_ := Aside0.mk ((by rw [hg]; exact (below_size (by repeat (first | (with_reducible first | exact HB.out | apply below_alloc | apply pw_below_drewN | apply below_drew1) | exact HB.out))) : w.heap.size ≤ gb295)); clear HB; have HB := n0_; have BK295 := n1_; have GW295 := n2_; have GE295 := n3_; clear n0_ n1_ n2_ n3_; clear hb hbox hg; have hcz13_0 : w12.cell? ⟨gb295, 0, none⟩ = some (.int .i64 0) := (blk_cell BK295.out 0).trans rfl; have hcz13_1 : w12.cell? ⟨gb295, 1, none⟩ = some (.int .i64 0) := (blk_cell BK295.out 1).trans rfl; have hfz13_0 := blk_frozen BK295.out 0; have hfz13_1 := blk_frozen BK295.out 1))
         go_ret
         exact ⟨by first | rfl | (simp [errW_none, errW_some] <;> rfl) | (simp [*, errW_none, errW_some] <;> rfl), by repeat (first | (with_reducible first | exact HB.out | apply below_alloc | apply pw_below_drewN | apply below_drew1 | refine below_set ?_ GE295.out) | exact HB.out)⟩
        ·rw [if_neg c11] at H
         have c11b0 : decide (1000000000 < ((rd_T32 l0 x8_1).f1)) = false := decide_eq_false c11
         clear c11
         by_cases c14 : ((rd_T32 l0 x8_1).f0) < (wrap64 (x3_1 + 2))
         ·rw [if_pos c14] at H
          have c14b0 : decide (((rd_T32 l0 x8_1).f0) < (wrap64 (x3_1 + 2))) = true := decide_eq_true c14
          clear c14
          obtain rfl := Option.some.inj H
          have p294 : 0 ≤ (x8_1 : Int) := of_decide_eq_true (by first | (with_reducible assumption) | assumption)
          have q294 : x8_1 < (l0.length : Int) := of_decide_eq_true (by first | (with_reducible assumption) | assumption)
          obtain ⟨ad294, e294, hx294_0, hx294_1⟩ := at_T32 HR0.out x8_1 p294 q294
          cases e294
          replace hx294_0 := (HB.out.cell (World.block_lt_of_cell? w _ hx294_0)).trans hx294_0
          replace hx294_1 := (HB.out.cell (World.block_lt_of_cell? w _ hx294_1)).trans hx294_1
          replace p294 := eq_true p294
          replace q294 := eq_true q294
          go_wp2_with (first | ((with_reducible refine gate_dst (N := 5) rfl ?_); refine box_event ?hg (N := 5) ?hd (cs := #[.int .i64 0, .int .i64 0]) (t := 32) ?hr ?_; (case hd => rfl); (case hg => rfl); (case hr => first | (go_simp; done) | (go_simp; rfl)); intro gb295 hg w15 hbox hb; have n0_ := Aside0.mk (below_step (by repeat (first | (with_reducible first | exact HB.out | apply below_alloc | apply pw_below_drewN | apply below_drew1) | exact HB.out)) hb); have n1_ := Aside0.mk (hbox); have n2_ := Aside0.mk ((by rw [hg]; exact (below_size (by repeat (first | (with_reducible first | exact HB.out | apply below_alloc | apply pw_below_drewN | apply below_drew1) | exact HB.out))) : w.heap.size ≤ gb295)); have n3_ := Aside0.mk ((by rw [hg]; exact (below_size (by repeat (first | (with_reducible first | exact HB.out | apply below_alloc | apply pw_below_drewN | apply below_drew1) | exact HB.out))) : w.heap.size ≤ gb295)); clear HB; have HB := n0_; have BK295 := n1_; have GW295 := n2_; have GE295 := n3_; clear n0_ n1_ n2_ n3_; clear hb hbox hg; have hcz16_0 : w15.cell? ⟨gb295, 0, none⟩ = some (.int .i64 0) := (blk_cell BK295.out 0).trans rfl; have hcz16_1 : w15.cell? ⟨gb295, 1, none⟩ = some (.int .i64 0) := (blk_cell BK295.out 1).trans rfl; have hfz16_0 := blk_frozen BK295.out 0; have hfz16_1 := blk_frozen BK295.out 1))
          go_ret
          exact ⟨by first | rfl | (simp [errW_none, errW_some] <;> rfl) | (simp [*, errW_none, errW_some] <;> rfl), by repeat (first | (with_reducible first | exact HB.out | apply below_alloc | apply pw_below_drewN | apply below_drew1 | refine below_set ?_ GE295.out) | exact HB.out)⟩
         ·rw [if_neg c14] at H
          have c14b0 : decide (((rd_T32 l0 x8_1).f0) < (wrap64 (x3_1 + 2))) = false := decide_eq_false c14
          clear c14
          have H' := Aside0.mk H
          clear H
          have p294 : 0 ≤ (x8_1 : Int) := of_decide_eq_true (by first | (with_reducible assumption) | assumption)
          have q294 : x8_1 < (l0.length : Int) := of_decide_eq_true (by first | (with_reducible assumption) | assumption)
          obtain ⟨ad294, e294, hx294_0, hx294_1⟩ := at_T32 HR0.out x8_1 p294 q294
          cases e294
          replace hx294_0 := (HB.out.cell (World.block_lt_of_cell? w _ hx294_0)).trans hx294_0
          replace hx294_1 := (HB.out.cell (World.block_lt_of_cell? w _ hx294_1)).trans hx294_1
          replace p294 := eq_true p294
          replace q294 := eq_true q294
          go_wp2_with (first | ((with_reducible refine gate_dst (N := 5) rfl ?_); refine box_event ?hg (N := 5) ?hd (cs := #[.int .i64 0, .int .i64 0]) (t := 32) ?hr ?_; (case hd => rfl); (case hg => rfl); (case hr => first | (go_simp; done) | (go_simp; rfl)); intro gb295 hg w17 hbox hb; have n0_ := Aside0.mk (below_step (by repeat (first | (with_reducible first | exact HB.out | apply below_alloc | apply pw_below_drewN | apply below_drew1) | exact HB.out)) hb); have n1_ := Aside0.mk (hbox); have n2_ := Aside0.mk ((by rw [hg]; exact (below_size (by repeat (first | (with_reducible first | exact HB.out | apply below_alloc | apply pw_below_drewN | apply below_drew1) | exact HB.out))) : w.heap.size ≤ gb295)); have n3_ := Aside0.mk ((by rw [hg]; exact (below_size (by repeat (first | (with_reducible first | exact HB.out | apply below_alloc | apply pw_below_drewN | apply below_drew1) | exact HB.out))) : w.heap.size ≤ gb295)); clear HB; have HB := n0_; have BK295 := n1_; have GW295 := n2_; have GE295 := n3_; clear n0_ n1_ n2_ n3_; clear hb hbox hg; have hcz18_0 : w17.cell? ⟨gb295, 0, none⟩ = some (.int .i64 0) := (blk_cell BK295.out 0).trans rfl; have hcz18_1 : w17.cell? ⟨gb295, 1, none⟩ = some (.int .i64 0) := (blk_cell BK295.out 1).trans rfl; have hfz18_0 := blk_frozen BK295.out 0; have hfz18_1 := blk_frozen BK295.out 1))
          go_roundg k1
          case measure => have := HK1.out; omega
          case rel => exact ⟨((rd_T32 l0 x8_1).f1), (wrap64 (x8_1 + 1)), (by first | rfl | (simp; done) | (simp [*]; done)), (by first | rfl | (simp; done) | (simp [*]; done)), H', ⟨by have := HK1.out; omega⟩, ⟨by repeat (first | (with_reducible first | exact HB.out | apply below_alloc | apply pw_below_drewN | apply below_drew1 | refine below_set ?_ GE295.out) | exact HB.out)⟩⟩
     ·rw [if_neg c4] at H
      exact absurd H (by simp)
    ·rw [if_neg c3] at H
     exact absurd H (by simp)
   ·rw [if_neg c2] at H
    have c2b0 : decide (x8_1 < (l0.length : Int)) = false := decide_eq_false c2
    clear c2
    obtain rfl := Option.some.inj H
    go_wp2
    go_ret
    exact ⟨by first | rfl | (simp [errW_none, errW_some] <;> rfl) | (simp [*, errW_none, errW_some] <;> rfl), by repeat (first | (with_reducible first | exact HB.out | apply below_alloc | apply pw_below_drewN | apply below_drew1) | exact HB.out)⟩

end Go.Proofs.YtlmdcpooogaolaaDoor.G

/- What printed span functions answer: IsNorm, Last. -/
namespace Go.Proofs.YtlmdcpooogaolaaDoor.Pure
open Go.RowKit Go.Proofs.YtlmdcpooogaolaaDoor.G Go.Proofs.YtlmdcpooogaolaaDoorW.PrintWords Go.Proofs.YtlmdcpooogaolaaDoorW.PrintLast Go.Proofs.YtlmdcpooogaolaaDoorW.PrintMore
set_option linter.unusedVariables false

def normB : Int → List S32 → Bool
  | _, [] => true
  | last, r :: t => decide (last + 2 ≤ r.f0) && decide (r.f0 ≤ r.f1) && decide (r.f1 ≤ 1000000000) && normB r.f1 t
theorem normB_iff (l : List S32) : ∀ last, normB last l = true ↔ NormFrom last l := by
  induction l with
  | nil => intro _; simp [normB, NormFrom]
  | cons r t ih => intro last; simp only [normB, NormFrom, Bool.and_eq_true, decide_eq_true_eq, ih, and_assoc]
theorem isNorm_l0 (row : List S32) (hr : Fit row) (pre suf : List S32) (hp : row = pre ++ suf) : ∀ (last : Int), -1 ≤ last → last ≤ 1000000000 →
    Ev (fun k => span_IsNorm.l0 k last row (row.length : Int) (pre.length : Int)) (normB last suf) := by
  induction suf generalizing pre with
  | nil =>
    intro last _ _
    refine Ev.step (f := fun _ => some (normB last [])) (fun k => ?_) (Ev.now _)
    simp only [span_IsNorm.l0]
    rw [if_neg (by rw [hp]; simp)]
    simp [normB]
  | cons r t ih =>
    intro last h1 h2
    have e1 : wrap64 ((pre.length : Int) + 1) = ((pre ++ [r]).length : Int) := by unfold Fit at hr; rw [w64_nat _ (by rw [hp] at hr; simp at hr; omega)]; simp
    have hlt : (pre.length : Int) < (row.length : Int) := by rw [hp]; simp; omega
    have hget : rd_T32 row (pre.length : Int) = r := by rw [hp]; exact rdT pre t r
    by_cases hc : last + 2 ≤ r.f0 ∧ r.f0 ≤ r.f1 ∧ r.f1 ≤ 1000000000
    · have hI := ih (pre ++ [r]) (by rw [hp]; simp) r.f1 (by omega) (by omega)
      rw [show normB last (r :: t) = normB r.f1 t from by simp only [normB]; rw [decide_eq_true hc.1, decide_eq_true hc.2.1, decide_eq_true hc.2.2]; rfl]
      refine Ev.step (fun k => ?_) hI
      simp only [span_IsNorm.l0]
      rw [if_pos hlt, if_pos (by omega), if_pos hlt, hget, if_neg (by omega), if_neg (by omega), if_neg (by omega), w64 (by omega) (by omega), if_neg (by omega), e1]
    · refine Ev.step (f := fun _ => some (normB last (r :: t))) (fun k => ?_) (Ev.now _)
      have e2 : normB last (r :: t) = false := by
        rw [Bool.eq_false_iff]
        intro h
        simp only [normB, Bool.and_eq_true, decide_eq_true_eq] at h
        exact hc ⟨h.1.1.1, h.1.1.2, h.1.2⟩
      simp only [span_IsNorm.l0]
      rw [if_pos hlt, if_pos (by omega), if_pos hlt, hget, e2, w64 (x := last + 2) (by omega) (by omega)]
      split
      · rfl
      · split
        · rfl
        · split
          · rfl
          · rw [if_pos (by omega)]
theorem isNorm_ev (l : List S32) (h : Fit l) : Ev (fun k => span_IsNorm.f k l) (normB (-1) l) := by
  unfold span_IsNorm.f
  exact isNorm_l0 l h [] l rfl (-1) (by omega) (by omega)

end Go.Proofs.YtlmdcpooogaolaaDoor.Pure

/- The reference's marks and its sort. -/
namespace Go.Proofs.YtlmdcpooogaolaaDoor.Pure
open Go.RowKit Go.Proofs.YtlmdcpooogaolaaDoor.G Go.Proofs.YtlmdcpooogaolaaDoorW.PrintWords Go.Proofs.YtlmdcpooogaolaaDoorW.PrintLast Go.Proofs.YtlmdcpooogaolaaDoorW.PrintMore
set_option linter.unusedVariables false

def mk1 (w : Int) (r : S32) : List S76 := if okB r = true then [⟨(clipS r).f0, w, 1⟩, ⟨(clipS r).f1 + 1, w, -1⟩] else []
def mkRow (w : Int) (row : List S32) : List S76 := row.flatMap (mk1 w)
def mkAll : Int → List (List S32) → List S76
  | _, [] => []
  | w, r :: t => mkRow w r ++ mkAll (w + 1) t
theorem mk1_len (w : Int) (r : S32) : (mk1 w r).length ≤ 2 := by unfold mk1; split <;> simp
theorem mkRow_len (w : Int) (row : List S32) : (mkRow w row).length ≤ 2 * row.length := by
  induction row with
  | nil => simp [mkRow]
  | cons r t ih =>
    have := mk1_len w r
    unfold mkRow at *
    rw [List.flatMap_cons, List.length_append, List.length_cons]
    omega
theorem mkAll_len (L : List (List S32)) : ∀ w, (mkAll w L).length ≤ 2 * L.flatten.length := by
  induction L with
  | nil => intro w; simp [mkAll]
  | cons r t ih =>
    intro w
    have := ih (w + 1)
    have := mkRow_len w r
    simp only [mkAll, List.length_append, List.flatten_cons]
    omega

theorem marks_l1 (L : List (List S32)) (w : Nat) (hw : w < L.length) (row : List S32) (hrow : rd_L2 L (w : Int) = row) (hr : row.length ≤ 4194304) (R : List S76) (pre suf : List S32) (hp : row = pre ++ suf) : ∀ (acc : List S76), acc.length + 2 * suf.length ≤ 4194304 →
    Ev (fun k => barrowref01_marks.l0 k L (acc ++ mkRow (w : Int) suf) (wrap64 ((w : Int) + 1))) R → Ev (fun k => barrowref01_marks.l1 k L acc (w : Int) (pre.length : Int)) R := by
  induction suf generalizing pre with
  | nil =>
    intro acc _ hE
    refine Ev.step (f := fun k => barrowref01_marks.l0 k L (acc ++ mkRow (w : Int) []) (wrap64 ((w : Int) + 1))) (fun k => ?_) hE
    simp only [barrowref01_marks.l1]
    rw [if_pos (by omega), if_pos (by omega), hrow, if_neg (by rw [hp]; simp)]
    simp [mkRow]
  | cons r t ih =>
    intro acc hl hE
    have e1 : wrap64 ((pre.length : Int) + 1) = ((pre ++ [r]).length : Int) := by rw [w64_nat _ (by rw [hp] at hr; simp at hr; omega)]; simp
    have hlt : (pre.length : Int) < (row.length : Int) := by rw [hp]; simp; omega
    have hget : rd_T32 row (pre.length : Int) = r := by rw [hp]; exact rdT pre t r
    have hI := ih (pre ++ [r]) (by rw [hp]; simp)
    have em : mkRow (w : Int) (r :: t) = mk1 (w : Int) r ++ mkRow (w : Int) t := by unfold mkRow; rw [List.flatMap_cons]
    rw [em, ← List.append_assoc] at hE
    simp only [List.length_cons] at hl
    have hlen := mk1_len (w : Int) r
    have hJ : Ev (fun k => barrowref01_marks.l1 k L (acc ++ mk1 (w : Int) r) (w : Int) ((pre ++ [r]).length : Int)) R := hI _ (by rw [List.length_append]; omega) hE
    have key : Ev (fun k => barrowref01_marks.j2 k L acc (w : Int) (pre.length : Int) (clipS r).f0 r.f1) R := by
      refine Ev.step (fun k => ?_) hJ
      simp only [barrowref01_marks.j2]
      rw [e1]
      have ec : (clipS r).f1 = if 1000000000 < r.f1 then 1000000000 else r.f1 := rfl
      by_cases h1 : r.f1 > 1000000000
      · rw [if_pos h1]
        rw [if_pos (show 1000000000 < r.f1 from h1)] at ec
        by_cases h2 : (clipS r).f0 ≤ 1000000000
        · have ok : okB r = true := by unfold okB; rw [ec]; exact decide_eq_true h2
          rw [if_pos h2, if_pos (by omega)]
          simp only [Option.bind_some]
          rw [if_pos (by rw [List.length_append, List.length_singleton]; omega)]
          unfold mk1
          rw [if_pos ok, ec, List.append_assoc]
          rfl
        · have ok : ¬ okB r = true := by unfold okB; rw [ec]; simpa using h2
          rw [if_neg h2]
          unfold mk1
          rw [if_neg ok, List.append_nil]
      · rw [if_neg h1]
        rw [if_neg (show ¬ 1000000000 < r.f1 from h1)] at ec
        by_cases h2 : (clipS r).f0 ≤ r.f1
        · have ok : okB r = true := by unfold okB; rw [ec]; exact decide_eq_true h2
          have h3 : 1 ≤ (clipS r).f0 := by unfold clipS; simp only; split <;> omega
          rw [if_pos h2, if_pos (by omega)]
          simp only [Option.bind_some]
          rw [if_pos (by rw [List.length_append, List.length_singleton]; omega), w64 (x := r.f1 + 1) (by omega) (by omega)]
          unfold mk1
          rw [if_pos ok, ec, List.append_assoc]
          rfl
        · have ok : ¬ okB r = true := by unfold okB; rw [ec]; simpa using h2
          rw [if_neg h2]
          unfold mk1
          rw [if_neg ok, List.append_nil]
    refine Ev.step (fun k => ?_) key
    simp only [barrowref01_marks.l1]
    rw [if_pos (by omega), if_pos (by omega), hrow, if_pos hlt, if_pos (by omega), hget]
    unfold clipS
    simp only
    split <;> rfl
theorem marks_l0 (L : List (List S32)) (hL : L.length ≤ 4194304) (hr : ∀ l ∈ L, l.length ≤ 4194304) (pre suf : List (List S32)) (hp : L = pre ++ suf) : ∀ (acc : List S76), acc.length + 2 * suf.flatten.length ≤ 4194304 →
    Ev (fun k => barrowref01_marks.l0 k L acc (pre.length : Int)) (acc ++ mkAll (pre.length : Int) suf) := by
  induction suf generalizing pre with
  | nil =>
    intro acc _
    refine Ev.step (f := fun _ => some (acc ++ mkAll (pre.length : Int) [])) (fun k => ?_) (Ev.now _)
    simp only [barrowref01_marks.l0]
    rw [if_neg (by rw [hp]; simp)]
    simp [mkAll]
  | cons r t ih =>
    intro acc hl
    have e1 : wrap64 ((pre.length : Int) + 1) = ((pre ++ [r]).length : Int) := by rw [w64_nat _ (by rw [hp] at hL; simp at hL; omega)]; simp
    have hlt : pre.length < L.length := by rw [hp]; simp
    have hget : rd_L2 L (pre.length : Int) = r := by rw [hp]; exact rdL pre t r
    simp only [List.flatten_cons, List.length_append] at hl
    have hm := mkRow_len (pre.length : Int) r
    have hI := ih (pre ++ [r]) (by rw [hp]; simp) (acc ++ mkRow (pre.length : Int) r) (by rw [List.length_append]; omega)
    have e2 : ((pre ++ [r]).length : Int) = (pre.length : Int) + 1 := by simp
    have e3 : acc ++ mkAll (pre.length : Int) (r :: t) = (acc ++ mkRow (pre.length : Int) r) ++ mkAll ((pre ++ [r]).length : Int) t := by rw [e2]; simp [mkAll]
    rw [e3]
    refine Ev.step (f := fun k => barrowref01_marks.l1 k L acc (pre.length : Int) 0) (fun k => ?_) (marks_l1 L pre.length hlt r hget (hr r (by rw [hp]; simp)) _ [] r rfl acc (by omega) (by rw [e1]; exact hI))
    simp only [barrowref01_marks.l0]
    rw [if_pos (by omega)]
theorem marks_ev (L : List (List S32)) (hL : L.length ≤ 4194304) (hr : 2 * L.flatten.length ≤ 4194304) : Ev (fun k => barrowref01_marks.f k L) (mkAll 0 L) := by
  unfold barrowref01_marks.f
  have hr' : ∀ l ∈ L, l.length ≤ 4194304 := by
    intro l hl
    have : l.length ≤ L.flatten.length := by
      obtain ⟨a, b, rfl⟩ := List.append_of_mem hl
      simp
      omega
    omega
  have := marks_l0 L hL hr' [] L rfl [] (by simpa using hr)
  simpa using this

/-! ### the sort: by blocks that grow -/
def le72 (a b : S76) : Bool := decide (a.f0 ≤ b.f0)
def Srt (l : List S76) : Prop := l.Pairwise (fun a b => le72 a b = true)
def Blk (w : Nat) : List (List S76) → Prop
  | [] => True
  | c :: t => Srt c ∧ 0 < c.length ∧ ((t = [] ∧ c.length ≤ w) ∨ (t ≠ [] ∧ c.length = w ∧ Blk w t))
def passC : List (List S76) → List (List S76)
  | [] => []
  | [c] => [c]
  | c :: d :: t => List.merge c d le72 :: passC t
theorem srt_merge {c d : List S76} (hc : Srt c) (hd : Srt d) : Srt (List.merge c d le72) :=
  List.pairwise_merge (fun a b c h1 h2 => by simp [le72] at *; omega) (fun a b => by simp [le72]; omega) _ _ hc hd
theorem passC_nil {cs : List (List S76)} (h : passC cs = []) : cs = [] := by
  match cs with
  | [] => rfl
  | [c] => simp [passC] at h
  | c :: d :: t => simp [passC] at h
theorem blk_len {w : Nat} {c : List S76} {t : List (List S76)} (h : Blk w (c :: t)) : c.length ≤ w := by
  rcases h.2.2 with ⟨_, h⟩ | ⟨_, h, _⟩ <;> omega
theorem blk_pass (w : Nat) : ∀ (n : Nat) (cs : List (List S76)), cs.length ≤ n → Blk w cs → Blk (2 * w) (passC cs) := by
  intro n
  induction n with
  | zero => intro cs hn h; have : cs = [] := List.eq_nil_of_length_eq_zero (by omega); subst this; trivial
  | succ n ih =>
    intro cs hn h
    match cs, h with
    | [], _ => trivial
    | [c], h => exact ⟨h.1, h.2.1, .inl ⟨rfl, by have := blk_len h; omega⟩⟩
    | c :: d :: t, h =>
      obtain ⟨hc, hc0, h2⟩ := h
      rcases h2 with ⟨h2, _⟩ | ⟨_, hcw, hd⟩
      · simp at h2
      · have hdw := blk_len hd
        obtain ⟨hds, hd0, h3⟩ := hd
        have hlen : (List.merge c d le72).length = c.length + d.length := by rw [(List.merge_perm_append le72).length_eq, List.length_append]
        refine ⟨srt_merge hc hds, by rw [hlen]; omega, ?_⟩
        rcases h3 with ⟨rfl, h3⟩ | ⟨ht, h3, h4⟩
        · exact .inl ⟨rfl, by rw [hlen]; omega⟩
        · refine .inr ⟨fun e => ht (passC_nil e), by rw [hlen]; omega, ih t (by simp at hn; omega) h4⟩
theorem pass_perm : ∀ (n : Nat) (cs : List (List S76)), cs.length ≤ n → (passC cs).flatten.Perm cs.flatten := by
  intro n
  induction n with
  | zero => intro cs hn; have : cs = [] := List.eq_nil_of_length_eq_zero (by omega); subst this; exact List.Perm.refl _
  | succ n ih =>
    intro cs hn
    match cs with
    | [] => exact List.Perm.refl _
    | [c] => exact List.Perm.refl _
    | c :: d :: t =>
      simp only [passC, List.flatten_cons]
      rw [← List.append_assoc]
      exact List.Perm.append (List.merge_perm_append le72) (ih t (by simp at hn; omega))
theorem pass_len : ∀ (n : Nat) (cs : List (List S76)), cs.length ≤ n → (passC cs).length ≤ cs.length ∧ (2 ≤ cs.length → (passC cs).length < cs.length) := by
  intro n
  induction n with
  | zero => intro cs hn; have : cs = [] := List.eq_nil_of_length_eq_zero (by omega); subst this; simp [passC]
  | succ n ih =>
    intro cs hn
    match cs with
    | [] => simp [passC]
    | [c] => simp [passC]
    | c :: d :: t =>
      have := ih t (by simp at hn; omega)
      simp only [passC, List.length_cons]
      omega

theorem rd72 (pre suf : List S76) (r : S76) (i : Int) (hi : i = (pre.length : Int)) : rd_T76 (pre ++ r :: suf) i = r := by
  subst hi
  unfold rd_T76
  rw [Int.toNat_natCast, List.getD_eq_getElem?_getD, List.getElem?_append_right (Nat.le_refl _), Nat.sub_self]
  rfl
theorem len_at {x0 pa qa : List S76} {r : S76} (h : x0 = pa ++ r :: qa) : pa.length < x0.length := by rw [h, List.length_append, List.length_cons]; omega
/-- One merge. -/
theorem sorted_l2 (x0 : List S76) (hn : x0.length ≤ 4194304) (w lo : Int) (R : List S76) : ∀ (d : Nat) (pa sa qa pb sb qb out : List S76) (i mid j hi : Int), sa.length + sb.length ≤ d → x0 = pa ++ (sa ++ qa) → x0 = pb ++ (sb ++ qb) →
    i = (pa.length : Int) → j = (pb.length : Int) → mid = i + (sa.length : Int) → hi = j + (sb.length : Int) → out.length + (sa.length + sb.length) ≤ 4194304 →
    Ev (fun k => barrowref01_sorted.l1 k x0 (x0.length : Int) w (out ++ List.merge sa sb le72) (wrap64 (lo + wrap64 (2 * w)))) R →
    Ev (fun k => barrowref01_sorted.l2 k x0 (x0.length : Int) w out lo mid hi i j) R := by
  intro d
  induction d with
  | zero =>
    intro pa sa qa pb sb qb out i mid j hi hd hxa hxb hi1 hj1 hmid hhi ho hE
    have ha : sa = [] := List.eq_nil_of_length_eq_zero (by omega)
    have hb : sb = [] := List.eq_nil_of_length_eq_zero (by omega)
    subst ha; subst hb
    rw [List.length_nil] at hmid hhi
    refine Ev.step (f := fun k => barrowref01_sorted.j5 k x0 (x0.length : Int) w out lo mid hi i j false) (fun k => ?_) (Ev.step (fun k => ?_) (by simpa using hE))
    · rw [barrowref01_sorted.l2, if_neg (by omega), decide_eq_false (by omega)]
    · rw [barrowref01_sorted.j5, if_neg (by decide)]
  | succ d ih =>
    intro pa sa qa pb sb qb out i mid j hi hd hxa hxb hi1 hj1 hmid hhi ho hE
    cases sa with
    | nil =>
      rw [List.length_nil] at hmid hd ho
      cases sb with
      | nil =>
        rw [List.length_nil] at hhi
        refine Ev.step (f := fun k => barrowref01_sorted.j5 k x0 (x0.length : Int) w out lo mid hi i j false) (fun k => ?_) (Ev.step (fun k => ?_) (by simpa using hE))
        · rw [barrowref01_sorted.l2, if_neg (by omega), decide_eq_false (by omega)]
        · rw [barrowref01_sorted.j5, if_neg (by decide)]
      | cons s u =>
        rw [List.length_cons] at hhi hd ho
        have hl := len_at (qa := u ++ qb) (r := s) hxb
        have hg : rd_T76 x0 j = s := by rw [hxb]; exact rd72 pb (u ++ qb) s j hj1
        have e1 : wrap64 (j + 1) = j + 1 := w64 (by omega) (by omega)
        have hI := ih pa [] qa (pb ++ [s]) u qb (out ++ [s]) i mid (j + 1) hi (by rw [List.length_nil]; omega) hxa (by rw [hxb]; simp) hi1 (by rw [List.length_append, List.length_singleton]; omega) (by rw [List.length_nil]; omega) (by omega) (by rw [List.length_append, List.length_singleton, List.length_nil]; omega) (by simpa using hE)
        refine Ev.step (f := fun k => barrowref01_sorted.j5 k x0 (x0.length : Int) w out lo mid hi i j true) (fun k => ?_) (Ev.step (fun k => ?_) hI)
        · rw [barrowref01_sorted.l2, if_neg (by omega), decide_eq_true (by omega)]
        · rw [barrowref01_sorted.j5, if_pos rfl, if_neg (by omega), if_neg (by omega), if_pos (by omega), if_pos (by omega), if_pos (by omega), hg, e1]
    | cons r t =>
      rw [List.length_cons] at hmid hd ho
      have hla := len_at (qa := t ++ qa) (r := r) hxa
      have hga : rd_T76 x0 i = r := by rw [hxa]; exact rd72 pa (t ++ qa) r i hi1
      have e1 : wrap64 (i + 1) = i + 1 := w64 (by omega) (by omega)
      have hstart : ∀ {X : List S76}, Ev (fun k => barrowref01_sorted.j5 k x0 (x0.length : Int) w out lo mid hi i j true) X → Ev (fun k => barrowref01_sorted.l2 k x0 (x0.length : Int) w out lo mid hi i j) X := by
        intro X h
        refine Ev.step (fun k => ?_) h
        rw [barrowref01_sorted.l2, if_pos (by omega)]
      cases sb with
      | nil =>
        rw [List.length_nil] at hhi hd ho
        have hI := ih (pa ++ [r]) t qa pb [] qb (out ++ [r]) (i + 1) mid j hi (by rw [List.length_nil]; omega) (by rw [hxa]; simp) hxb (by rw [List.length_append, List.length_singleton]; omega) hj1 (by omega) (by rw [List.length_nil]; omega) (by rw [List.length_append, List.length_singleton, List.length_nil]; omega) (by simpa using hE)
        refine hstart (Ev.step (fun k => ?_) hI)
        rw [barrowref01_sorted.j5, if_pos rfl, if_pos (by omega), if_pos (by omega), if_pos (by omega), if_pos (by omega), hga, e1]
      | cons s u =>
        rw [List.length_cons] at hhi hd ho
        have hl := len_at (qa := u ++ qb) (r := s) hxb
        have hgb : rd_T76 x0 j = s := by rw [hxb]; exact rd72 pb (u ++ qb) s j hj1
        have e2 : wrap64 (j + 1) = j + 1 := w64 (by omega) (by omega)
        by_cases hc : r.f0 ≤ s.f0
        · have em : List.merge (r :: t) (s :: u) le72 = r :: List.merge t (s :: u) le72 := by rw [List.cons_merge_cons, if_pos (by simp [le72, hc])]
          rw [em] at hE
          have hI := ih (pa ++ [r]) t qa pb (s :: u) qb (out ++ [r]) (i + 1) mid j hi (by rw [List.length_cons]; omega) (by rw [hxa]; simp) hxb (by rw [List.length_append, List.length_singleton]; omega) hj1 (by omega) (by rw [List.length_cons]; omega) (by rw [List.length_append, List.length_singleton, List.length_cons]; omega) (by rw [List.append_assoc]; exact hE)
          refine hstart (Ev.step (fun k => ?_) hI)
          rw [barrowref01_sorted.j5, if_pos rfl, if_neg (by omega), if_pos (by omega), if_pos (by omega), if_pos (by omega), if_pos (by omega), if_pos (by omega), hga, hgb, if_pos hc, if_pos (by omega), e1]
        · have em : List.merge (r :: t) (s :: u) le72 = s :: List.merge (r :: t) u le72 := by rw [List.cons_merge_cons, if_neg (by simp [le72]; omega)]
          rw [em] at hE
          have hI := ih pa (r :: t) qa (pb ++ [s]) u qb (out ++ [s]) i mid (j + 1) hi (by rw [List.length_cons]; omega) hxa (by rw [hxb]; simp) hi1 (by rw [List.length_append, List.length_singleton]; omega) (by rw [List.length_cons]; omega) (by omega) (by rw [List.length_append, List.length_singleton, List.length_cons]; omega) (by rw [List.append_assoc]; exact hE)
          refine hstart (Ev.step (fun k => ?_) hI)
          rw [barrowref01_sorted.j5, if_pos rfl, if_neg (by omega), if_pos (by omega), if_pos (by omega), if_pos (by omega), if_pos (by omega), if_pos (by omega), hga, hgb, if_neg hc, if_pos (by omega), e2]
/-- From l1 to the merge, for two blocks. -/
theorem sorted_two (x0 : List S76) (hn : x0.length ≤ 4194304) (w : Nat) (hw : 1 ≤ w) (hw2 : w ≤ 4194304) (R : List S76) (P c e C out : List S76) (hx2 : x0 = P ++ (c ++ (e ++ C))) (ho : out.length = P.length) (hc0 : 0 < c.length) (hcw : c.length ≤ w) (hew : e.length ≤ w) (hC : C ≠ [] → e.length = w) (heC : e ++ C ≠ [] → c.length = w)
    (hE2 : Ev (fun k => barrowref01_sorted.l1 k x0 (x0.length : Int) (w : Int) (out ++ List.merge c e le72) (wrap64 ((P.length : Int) + wrap64 (2 * (w : Int))))) R) : Ev (fun k => barrowref01_sorted.l1 k x0 (x0.length : Int) (w : Int) out (P.length : Int)) R := by
  have hxl2 : x0.length = P.length + (c.length + (e.length + C.length)) := by rw [hx2]; simp only [List.length_append]
  have hm := sorted_l2 x0 hn (w : Int) (P.length : Int) R _ P c (e ++ C) (P ++ c) e C out (P.length : Int) ((P.length : Int) + (c.length : Int)) ((P.length : Int) + (c.length : Int)) ((P.length : Int) + (c.length : Int) + (e.length : Int)) (Nat.le_refl _) hx2 (by rw [hx2]; simp) rfl (by rw [List.length_append]; omega) rfl rfl (by omega) hE2
  have hmid : (if wrap64 ((P.length : Int) + (w : Int)) > (x0.length : Int) then (x0.length : Int) else wrap64 ((P.length : Int) + (w : Int))) = (P.length : Int) + (c.length : Int) := by
    rw [w64 (by omega) (by omega)]
    by_cases h5 : e ++ C = []
    · have h6 : e.length + C.length = 0 := by rw [← List.length_append, h5]; rfl
      split <;> omega
    · have := heC h5
      rw [if_neg (by omega)]; omega
  have hhi : (if wrap64 ((P.length : Int) + (c.length : Int) + (w : Int)) > (x0.length : Int) then (x0.length : Int) else wrap64 ((P.length : Int) + (c.length : Int) + (w : Int))) = (P.length : Int) + (c.length : Int) + (e.length : Int) := by
    rw [w64 (by omega) (by omega)]
    by_cases h5 : C = []
    · have h6 : C.length = 0 := by rw [h5]; rfl
      split <;> omega
    · have := hC h5
      rw [if_neg (by omega)]; omega
  refine Ev.step (f := fun k => barrowref01_sorted.j2 k x0 (x0.length : Int) (w : Int) out (P.length : Int) ((P.length : Int) + (c.length : Int))) (fun k => ?_) (Ev.step (f := fun k => barrowref01_sorted.j3 k x0 (x0.length : Int) (w : Int) out (P.length : Int) ((P.length : Int) + (c.length : Int)) ((P.length : Int) + (c.length : Int) + (e.length : Int))) (fun k => ?_) (Ev.step (fun k => ?_) hm))
  · rw [barrowref01_sorted.l1, if_pos (by omega), ← hmid]
    split <;> rfl
  · rw [barrowref01_sorted.j2, ← hhi]
    split <;> rfl
  · rw [barrowref01_sorted.j3]
theorem sorted_end (x0 : List S76) (w : Int) (out : List S76) (i : Int) (R : List S76) (hi : (x0.length : Int) ≤ i) (h : Ev (fun k => barrowref01_sorted.l0 k out (x0.length : Int) (wrap64 (2 * w))) R) : Ev (fun k => barrowref01_sorted.l1 k x0 (x0.length : Int) w out i) R := by
  refine Ev.step (fun k => ?_) h
  rw [barrowref01_sorted.l1, if_neg (by omega)]
theorem merge_nil (c : List S76) : List.merge c [] le72 = c := by cases c <;> simp
/-- One pass. -/
theorem sorted_l1 (x0 : List S76) (hn : x0.length ≤ 4194304) (w : Nat) (hw : 1 ≤ w) (hw2 : w ≤ 4194304) (R : List S76) : ∀ (d : Nat) (P : List S76) (cs : List (List S76)) (out : List S76), cs.length ≤ d → x0 = P ++ cs.flatten → Blk w cs → out.length = P.length →
    Ev (fun k => barrowref01_sorted.l0 k (out ++ (passC cs).flatten) (x0.length : Int) (wrap64 (2 * (w : Int)))) R → Ev (fun k => barrowref01_sorted.l1 k x0 (x0.length : Int) (w : Int) out (P.length : Int)) R := by
  intro d
  induction d with
  | zero =>
    intro P cs out hd hx hB ho hE
    have : cs = [] := List.eq_nil_of_length_eq_zero (by omega)
    subst this
    refine sorted_end x0 _ out _ R ?_ (by simpa [passC] using hE)
    rw [hx]; simp
  | succ d ih =>
    intro P cs out hd hx hB ho hE
    have e2w : wrap64 (2 * (w : Int)) = 2 * (w : Int) := w64 (by omega) (by omega)
    have hPl : P.length ≤ x0.length := by rw [hx, List.length_append]; omega
    have e3w : wrap64 ((P.length : Int) + wrap64 (2 * (w : Int))) = (P.length : Int) + 2 * (w : Int) := by rw [e2w]; exact w64 (by omega) (by omega)
    match cs, hB, hx, hd, hE with
    | [], hB, hx, hd, hE =>
      refine sorted_end x0 _ out _ R ?_ (by simpa [passC] using hE)
      rw [hx]; simp
    | [c], hB, hx, hd, hE =>
      have hcl := blk_len hB
      have hxl : x0.length = P.length + c.length := by rw [hx]; simp
      refine sorted_two x0 hn w hw hw2 R P c [] [] out (by simpa using hx) ho hB.2.1 hcl (by simp) (by simp) (by simp) ?_
      rw [e3w, merge_nil]
      exact sorted_end x0 _ _ _ R (by omega) (by simpa [passC] using hE)
    | c :: e :: t, hB, hx, hd, hE =>
      obtain ⟨hc, hc0, h2⟩ := hB
      rcases h2 with ⟨h2, _⟩ | ⟨_, hcw, hBe⟩
      · simp at h2
      · have hew := blk_len hBe
        obtain ⟨he, he0, h3⟩ := hBe
        have hx' : x0 = P ++ (c ++ (e ++ t.flatten)) := by simpa using hx
        have hxl : x0.length = P.length + (c.length + (e.length + t.flatten.length)) := by rw [hx']; simp only [List.length_append]
        have hml : (List.merge c e le72).length = c.length + e.length := by rw [(List.merge_perm_append le72).length_eq, List.length_append]
        refine sorted_two x0 hn w hw hw2 R P c e t.flatten out hx' ho hc0 (by omega) hew (fun hne => ?_) (fun _ => hcw) ?_
        · rcases h3 with ⟨rfl, _⟩ | ⟨_, h3, _⟩
          · exact absurd rfl hne
          · exact h3
        · rcases h3 with ⟨rfl, h3⟩ | ⟨ht, h3, h4⟩
          · rw [e3w]
            have : ([] : List (List S76)).flatten.length = 0 := rfl
            exact sorted_end x0 _ _ _ R (by omega) (by simpa [passC] using hE)
          · have hI := ih (P ++ (c ++ e)) t (out ++ List.merge c e le72) (by simp at hd; omega) (by rw [hx']; simp) h4 (by rw [List.length_append, List.length_append, hml, List.length_append]; omega) (by simpa [passC] using hE)
            have ep : wrap64 ((P.length : Int) + wrap64 (2 * (w : Int))) = ((P ++ (c ++ e)).length : Int) := by
              rw [e3w, List.length_append, List.length_append]
              omega
            rw [ep]
            exact hI
theorem sorted_l0 (n : Nat) (hn : n ≤ 4194304) : ∀ (d : Nat) (cs : List (List S76)) (w : Nat), cs.length ≤ d → 1 ≤ w → w ≤ 2 * 4194304 → Blk w cs → cs.flatten.length = n →
    ∃ s, Ev (fun k => barrowref01_sorted.l0 k cs.flatten (n : Int) (w : Int)) s ∧ s.Perm cs.flatten ∧ Srt s := by
  intro d
  induction d with
  | zero =>
    intro cs w hd hw1 hw2 hB hl
    have : cs = [] := List.eq_nil_of_length_eq_zero (by omega)
    subst this
    refine ⟨[], Ev.step (f := fun _ => some []) (fun k => ?_) (Ev.now _), List.Perm.refl _, List.Pairwise.nil⟩
    simp only [barrowref01_sorted.l0]
    simp at hl
    rw [if_neg (by omega)]
    rfl
  | succ d ih =>
    intro cs w hd hw1 hw2 hB hl
    by_cases hc : (w : Int) < (n : Int)
    · have h2 : 2 ≤ cs.length := by
        match cs, hB with
        | [], _ => simp at hl; omega
        | [c], hB => have := blk_len hB; simp at hl; omega
        | c :: e :: t, _ => simp
      have hpl := pass_len _ cs (Nat.le_refl _)
      have hpp := pass_perm _ cs (Nat.le_refl _)
      have hpb := blk_pass w _ cs (Nat.le_refl _) hB
      obtain ⟨s, hs, hs2, hs3⟩ := ih (passC cs) (2 * w) (by have := hpl.2 h2; omega) (by omega) (by omega) hpb (by rw [hpp.length_eq, hl])
      refine ⟨s, ?_, hs2.trans hpp, hs3⟩
      have hl1 := sorted_l1 cs.flatten (by omega) w hw1 (by omega) s _ [] cs [] (Nat.le_refl _) (by simp) hB rfl (by
        rw [hl, w64 (by omega) (by omega), List.nil_append]
        exact hs)
      refine Ev.step (f := fun k => barrowref01_sorted.l1 k cs.flatten (n : Int) (w : Int) [] 0) (fun k => ?_) (by rw [hl] at hl1; exact hl1)
      simp only [barrowref01_sorted.l0]
      rw [if_pos hc, if_pos (by omega), if_pos (by omega)]
    · refine ⟨cs.flatten, Ev.step (f := fun _ => some cs.flatten) (fun k => ?_) (Ev.now _), List.Perm.refl _, ?_⟩
      · simp only [barrowref01_sorted.l0]
        rw [if_neg hc]
      · match cs, hB with
        | [], _ => exact List.Pairwise.nil
        | [c], hB => simpa using hB.1
        | c :: e :: t, hB =>
          exfalso
          obtain ⟨hc1, hc0, h2⟩ := hB
          rcases h2 with ⟨h2, _⟩ | ⟨_, hcw, hBe⟩
          · simp at h2
          · have := hBe.2.1
            simp at hl
            omega
theorem blk_ones (l : List S76) : Blk 1 (l.map fun x => [x]) := by
  induction l with
  | nil => trivial
  | cons x t ih =>
    refine ⟨List.pairwise_singleton _ _, by simp, ?_⟩
    cases t with
    | nil => exact .inl ⟨rfl, by simp⟩
    | cons y u => exact .inr ⟨by simp, by simp, ih⟩
theorem flatten_ones (l : List S76) : (l.map fun x => [x]).flatten = l := by
  induction l with
  | nil => rfl
  | cons x t ih => simp only [List.map_cons, List.flatten_cons, ih]; rfl
theorem sorted_ev (l : List S76) (h : l.length ≤ 4194304) : ∃ s, Ev (fun k => barrowref01_sorted.f k l) s ∧ s.Perm l ∧ Srt s := by
  obtain ⟨s, h1, h2, h3⟩ := sorted_l0 l.length h _ (l.map fun x => [x]) 1 (Nat.le_refl _) (Nat.le_refl _) (by omega) (blk_ones l) (by rw [flatten_ones])
  rw [flatten_ones] at h1 h2
  exact ⟨s, h1, h2, h3⟩
end Go.Proofs.YtlmdcpooogaolaaDoor.Pure

/- The reference's sweep: the set where enough of the lists hold a number. -/
namespace Go.Proofs.YtlmdcpooogaolaaDoor.Pure
open Go.RowKit Go.Proofs.YtlmdcpooogaolaaDoor.G Go.Proofs.YtlmdcpooogaolaaDoorW.PrintWords Go.Proofs.YtlmdcpooogaolaaDoorW.PrintLast Go.Proofs.YtlmdcpooogaolaaDoorW.PrintMore
set_option linter.unusedVariables false

def tot (w : Int) : List S76 → Int
  | [] => 0
  | m :: t => (if m.f1 = w then m.f2 else 0) + tot w t
theorem tot_append (w : Int) (a b : List S76) : tot w (a ++ b) = tot w a + tot w b := by
  induction a with
  | nil => simp [tot]
  | cons x t ih => simp only [List.cons_append, tot, ih]; omega
theorem tot_perm (w : Int) {a b : List S76} (h : a.Perm b) : tot w a = tot w b := by
  induction h with
  | nil => rfl
  | cons x _ ih => simp only [tot, ih]
  | swap x y l => simp only [tot]; omega
  | trans _ _ i1 i2 => exact i1.trans i2
def Fair (m : Nat) (x : S76) : Prop := 0 ≤ x.f1 ∧ x.f1 < m ∧ (x.f2 = 1 ∨ x.f2 = -1) ∧ 1 ≤ x.f0 ∧ x.f0 ≤ 1000000001
theorem tot_bound {m : Nat} (w : Int) {l : List S76} (h : ∀ x ∈ l, Fair m x) : -(l.length : Int) ≤ tot w l ∧ tot w l ≤ (l.length : Int) := by
  induction l with
  | nil => simp [tot]
  | cons x t ih =>
    have := ih (fun y hy => h y (by simp [hy]))
    have hx := (h x (by simp)).2.2.1
    simp only [tot, List.length_cons]
    split <;> omega
def held (m : Nat) (l : List S76) : List Int := (List.range m).map (fun w : Nat => tot (w : Int) l)
theorem held_len (m : Nat) (l : List S76) : (held m l).length = m := by simp [held]
theorem rdHeld (m : Nat) (l : List S76) (w : Nat) (h : w < m) : rd (held m l) (w : Int) = tot (w : Int) l := by
  unfold rd held
  rw [Int.toNat_natCast, List.getD_eq_getElem?_getD, List.getElem?_map, List.getElem?_range h]
  rfl
def posN (h : List Int) : Int := h.foldr (fun x n => (if x > 0 then 1 else 0) + n) 0
theorem posN_cons (x : Int) (t : List Int) : posN (x :: t) = (if x > 0 then 1 else 0) + posN t := rfl
theorem posN_bound (h : List Int) : 0 ≤ posN h ∧ posN h ≤ h.length := by
  induction h with
  | nil => simp [posN]
  | cons x t ih => rw [posN_cons, List.length_cons]; split <;> omega
theorem posN_set (h : List Int) : ∀ (i : Nat) (v : Int), i < h.length → posN (h.set i v) = posN h - (if rd h (i : Int) > 0 then 1 else 0) + (if v > 0 then 1 else 0) := by
  induction h with
  | nil => intro i v hi; simp at hi
  | cons x t ih =>
    intro i v hi
    cases i with
    | zero =>
      have e : rd (x :: t) ((0 : Nat) : Int) = x := rfl
      rw [List.set_cons_zero, posN_cons, posN_cons, e]
      split <;> split <;> omega
    | succ i =>
      have e : rd (x :: t) ((i + 1 : Nat) : Int) = rd t (i : Int) := by
        unfold rd
        rw [Int.toNat_natCast, Int.toNat_natCast, List.getD_cons_succ]
      rw [List.set_cons_succ, posN_cons, posN_cons, ih i v (by simpa using hi), e]
      split <;> split <;> split <;> omega
theorem posN_pos (h : List Int) : posN h > 0 ↔ ∃ x ∈ h, x > 0 := by
  induction h with
  | nil => simp [posN]
  | cons x t ih =>
    rw [posN_cons]
    have := posN_bound t
    constructor
    · intro hp
      by_cases hx : x > 0
      · exact ⟨x, by simp, hx⟩
      · rw [if_neg hx] at hp
        obtain ⟨y, hy, hy2⟩ := ih.1 (by omega)
        exact ⟨y, by simp [hy], hy2⟩
    · rintro ⟨y, hy, hy2⟩
      rcases List.mem_cons.1 hy with rfl | hy
      · rw [if_pos hy2]; omega
      · have := ih.2 ⟨y, hy, hy2⟩
        split <;> omega
theorem held_set (m : Nat) (pre : List S76) (x : S76) (hx : Fair m x) : (held m pre).set x.f1.toNat (tot x.f1 pre + x.f2) = held m (pre ++ [x]) := by
  obtain ⟨h0, h1, _⟩ := hx
  apply List.ext_getElem?
  intro j
  unfold held
  rw [List.getElem?_set, List.length_map, List.length_range, List.getElem?_map, List.getElem?_map]
  by_cases hj : j < m
  · rw [List.getElem?_range hj]
    by_cases he : x.f1.toNat = j
    · rw [if_pos he, if_pos (by omega)]
      simp only [Option.map_some, tot_append, tot]
      have : ((j : Nat) : Int) = x.f1 := by omega
      rw [this, if_pos rfl, Int.add_zero]
    · rw [if_neg he]
      simp only [Option.map_some, tot_append, tot]
      rw [if_neg (by omega)]
      simp
  · rw [List.getElem?_eq_none (by simp; omega)]
    rw [if_neg (by omega)]
    rfl

/-- All marks at one place. -/
theorem sweep_l1 (L : List (List S32)) (how : Int) (s : List S76) (hs : s.length ≤ 4194304) (hm : L.length ≤ 4194304) (hF : ∀ x ∈ s, Fair L.length x) (R : List S32) (p : Int) (out : List S32) (suf : List S76) (hsuf : ∀ y t, suf = y :: t → y.f0 ≠ p) : ∀ (g pre : List S76), s = pre ++ (g ++ suf) → (∀ x ∈ g, x.f0 = p) →
    Ev (fun k => barrowref01_sweep.j2 k L how s (held L.length (pre ++ g)) (posN (held L.length (pre ++ g))) out ((pre ++ g).length : Int) p false) R →
    Ev (fun k => barrowref01_sweep.l1 k L how s (held L.length pre) (posN (held L.length pre)) out (pre.length : Int) p) R := by
  intro g
  induction g with
  | nil =>
    intro pre hx _ hE
    rw [List.append_nil] at hE
    refine Ev.step (fun k => ?_) hE
    rw [barrowref01_sweep.l1]
    cases suf with
    | nil =>
      rw [if_neg (by rw [hx]; simp)]
    | cons y t =>
      have hl : pre.length < s.length := len_at (qa := t) (r := y) (by rw [hx]; simp)
      have hg : rd_T76 s (pre.length : Int) = y := by rw [hx]; exact rd72 pre t y _ rfl
      have := hsuf y t rfl
      rw [if_pos (by omega), if_pos (by omega), hg, beq_eq_false_iff_ne.2 this]
  | cons x g ih =>
    intro pre hx hg hE
    have hxs : x ∈ s := by rw [hx]; simp
    have hfx := hF x hxs
    obtain ⟨f1, f2, f3, f4⟩ := hfx
    have hl : pre.length < s.length := len_at (qa := g ++ suf) (r := x) (by rw [hx]; simp)
    have hgt : rd_T76 s (pre.length : Int) = x := by rw [hx]; exact rd72 pre (g ++ suf) x _ rfl
    have hp : x.f0 = p := hg x (by simp)
    have e1 : wrap64 ((pre.length : Int) + 1) = ((pre ++ [x]).length : Int) := by rw [w64_nat _ (by omega)]; simp
    have hw : ((x.f1.toNat : Nat) : Int) = x.f1 := by omega
    have hrd : rd (held L.length pre) x.f1 = tot x.f1 pre := by rw [← hw]; exact rdHeld _ _ _ (by omega)
    have hb := tot_bound x.f1 (m := L.length) (l := pre) (fun y hy => hF y (by rw [hx]; simp [hy]))
    have hset := held_set L.length pre x (hF x hxs)
    have hpn := posN_set (held L.length pre) x.f1.toNat (tot x.f1 pre + x.f2) (by rw [held_len]; omega)
    rw [hset, hw, hrd] at hpn
    have hpb := posN_bound (held L.length pre)
    have hpb2 := posN_bound (held L.length (pre ++ [x]))
    rw [held_len] at hpb hpb2
    have hI := ih (pre ++ [x]) (by rw [hx]; simp) (fun y hy => hg y (by simp [hy])) (by rw [List.append_assoc]; exact hE)
    refine Ev.step (f := fun k => barrowref01_sweep.j2 k L how s (held L.length pre) (posN (held L.length pre)) out (pre.length : Int) p true) (fun k => ?_) (Ev.step (fun k => ?_) hI)
    · rw [barrowref01_sweep.l1, if_pos (by omega), if_pos (by omega), hgt, hp, beq_self_eq_true]
    · rw [barrowref01_sweep.j2, if_pos rfl, if_pos (by omega), if_pos (by omega), hgt, if_pos f1, if_pos (by rw [held_len]; exact f2), hrd, w64 (x := tot x.f1 pre + x.f2) (by omega) (by omega), hset, e1]
      simp only [Option.bind_some]
      by_cases c1 : tot x.f1 pre > 0
      · rw [if_pos c1]
        rw [if_pos c1] at hpn
        rw [w64 (x := posN (held L.length pre) - 1) (by omega) (by omega)]
        by_cases c2 : tot x.f1 pre + x.f2 > 0
        · rw [if_pos c2] at hpn ⊢
          rw [w64 (by omega) (by omega), ← hpn]
        · rw [if_neg c2] at hpn ⊢
          rw [show posN (held L.length pre) - 1 = posN (held L.length (pre ++ [x])) from by omega]
      · rw [if_neg c1]
        rw [if_neg c1] at hpn
        by_cases c2 : tot x.f1 pre + x.f2 > 0
        · rw [if_pos c2] at hpn ⊢
          rw [w64 (by omega) (by omega)]
          rw [show posN (held L.length pre) + 1 = posN (held L.length (pre ++ [x])) from by omega]
        · rw [if_neg c2] at hpn ⊢
          rw [show posN (held L.length pre) = posN (held L.length (pre ++ [x])) from by omega]

def onB (how : Int) (m : Nat) (h : List Int) : Bool := if how = 3 then decide (posN h = 1) && decide (rd h 0 > 0) else if how = 2 then posN h == (m : Int) else decide (posN h > 0)
theorem sweep_on (L : List (List S32)) (how : Int) (s : List S76) (h : List Int) (hl : h.length = L.length) (out : List S32) (i p : Int) (R : List S32) (hE : Ev (fun k => barrowref01_sweep.j4 k L how s h (posN h) out i p (onB how L.length h)) R) :
    Ev (fun k => barrowref01_sweep.j2 k L how s h (posN h) out i p false) R := by
  have hpb := posN_bound h
  unfold onB at hE
  by_cases c3 : how = 3
  · rw [if_pos c3] at hE
    refine Ev.step (f := fun k => barrowref01_sweep.j3 k L how s h (posN h) out i p (decide (posN h > 0))) (fun k => ?_) (Ev.step (fun k => ?_) hE)
    · rw [barrowref01_sweep.j2, if_neg (by decide), if_neg (by omega)]
    · rw [barrowref01_sweep.j3, if_pos c3]
      by_cases c1 : posN h = 1
      · rw [if_pos c1, if_pos (by omega), decide_eq_true c1, Bool.true_and]
      · rw [if_neg c1, decide_eq_false c1, Bool.false_and]
  · rw [if_neg c3] at hE
    by_cases c2 : how = 2
    · rw [if_pos c2] at hE
      refine Ev.step (f := fun k => barrowref01_sweep.j3 k L how s h (posN h) out i p (posN h == (L.length : Int))) (fun k => ?_) (Ev.step (fun k => ?_) hE)
      · rw [barrowref01_sweep.j2, if_neg (by decide), if_pos c2]
      · rw [barrowref01_sweep.j3, if_neg c3]
    · rw [if_neg c2] at hE
      refine Ev.step (f := fun k => barrowref01_sweep.j3 k L how s h (posN h) out i p (decide (posN h > 0))) (fun k => ?_) (Ev.step (fun k => ?_) hE)
      · rw [barrowref01_sweep.j2, if_neg (by decide), if_neg c2]
      · rw [barrowref01_sweep.j3, if_neg c3]

theorem filter_all {l : List S76} {n : Int} (h : ∀ x ∈ l, x.f0 ≤ n) : l.filter (fun x => decide (x.f0 ≤ n)) = l := List.filter_eq_self.2 (fun x hx => decide_eq_true (h x hx))
theorem filter_none {l : List S76} {n : Int} (h : ∀ x ∈ l, n < x.f0) : l.filter (fun x => decide (x.f0 ≤ n)) = [] := by
  rw [List.filter_eq_nil_iff]
  intro x hx
  have := h x hx
  simp
  omega
/-- Which numbers are on. -/
def OnAt (L : List (List S32)) (how : Int) (s : List S76) (n : Int) : Prop := 1 ≤ n ∧ n ≤ 1000000000 ∧ onB how L.length (held L.length (s.filter (fun x => decide (x.f0 ≤ n)))) = true

theorem last_mem {o : List S32} {x : S32} (h : Norm (o ++ [x])) : Mem (o ++ [x]) x.f1 := by
  obtain ⟨h1, h2, h3, h4⟩ := (normFrom_snoc o x _).1 h
  have : -1 ≤ hiOf (-1) o := by
    have : ∀ (u : List S32) (c : Int), NormFrom c u → c ≤ hiOf c u := by
      intro u
      induction u with
      | nil => intro c _; exact Int.le_refl _
      | cons s v ihv => intro c hc; have := ihv s.f1 hc.2.2.2; rw [hiOf_cons]; have := hc.1; have := hc.2.1; omega
    exact this o _ h1
  exact (mem_snoc _ _ _).2 (.inr ⟨by omega, by omega, h3, Int.le_refl _⟩)
theorem split_at (p : Int) (l : List S76) : ∃ g r, l = g ++ r ∧ (∀ x ∈ g, x.f0 = p) ∧ (∀ y t, r = y :: t → y.f0 ≠ p) := by
  induction l with
  | nil => exact ⟨[], [], rfl, by simp, by simp⟩
  | cons x t ih =>
    by_cases hx : x.f0 = p
    · obtain ⟨g, r, h1, h2, h3⟩ := ih
      refine ⟨x :: g, r, by rw [h1]; rfl, ?_, h3⟩
      intro y hy
      rcases List.mem_cons.1 hy with rfl | hy
      · exact hx
      · exact h2 y hy
    · refine ⟨[], x :: t, rfl, by simp, ?_⟩
      intro y u h
      injection h with h _
      subst h
      exact hx

theorem sweep_l0 (L : List (List S32)) (how : Int) (s : List S76) (hs : s.length ≤ 4194304) (hm : L.length ≤ 4194304) (hF : ∀ x ∈ s, Fair L.length x) (hS : Srt s) (hz : onB how L.length (held L.length s) = false) : ∀ (d : Nat) (pre suf : List S76) (out : List S32), suf.length ≤ d → s = pre ++ suf → Norm out → out.length ≤ pre.length →
    (∀ x ∈ pre, ∀ y ∈ suf, x.f0 < y.f0) → (∀ n, Mem out n ↔ OnAt L how s n ∧ ∀ y ∈ suf, n < y.f0) →
    ∃ R, Ev (fun k => barrowref01_sweep.l0 k L how s (held L.length pre) (posN (held L.length pre)) out (pre.length : Int)) R ∧ Rep R (OnAt L how s) ∧ R.length ≤ s.length := by
  intro d
  induction d with
  | zero =>
    intro pre suf out hd hx hN hol hlt hM
    have : suf = [] := List.eq_nil_of_length_eq_zero (by omega)
    subst this
    refine ⟨out, Ev.step (f := fun _ => some out) (fun k => ?_) (Ev.now _), ⟨hN, fun n => by rw [hM]; simp⟩, by rw [hx, List.append_nil]; exact hol⟩
    rw [barrowref01_sweep.l0, if_neg (by rw [hx]; simp)]
  | succ d ih =>
    intro pre suf out hd hx hN hol hlt hM
    cases suf with
    | nil =>
      refine ⟨out, Ev.step (f := fun _ => some out) (fun k => ?_) (Ev.now _), ⟨hN, fun n => by rw [hM]; simp⟩, by rw [hx, List.append_nil]; exact hol⟩
      rw [barrowref01_sweep.l0, if_neg (by rw [hx]; simp)]
    | cons x t =>
      obtain ⟨p, hp⟩ : ∃ p, x.f0 = p := ⟨_, rfl⟩
      obtain ⟨g, r, hgr, hg, hr⟩ := split_at p t
      have hxF := hF x (by rw [hx]; simp)
      obtain ⟨_, _, _, fx1, fx2⟩ := hxF
      have hl : pre.length < s.length := len_at (qa := t) hx
      have hgt : rd_T76 s (pre.length : Int) = x := by rw [hx]; exact rd72 pre t x _ rfl
      have hx2 : s = pre ++ ((x :: g) ++ r) := by rw [hx, hgr]; rfl
      have hgall : ∀ y ∈ x :: g, y.f0 = p := by
        intro y hy
        rcases List.mem_cons.1 hy with rfl | hy
        · exact hp
        · exact hg y hy
      have hSr : ∀ y ∈ r, p < y.f0 := by
        -- sorted: what comes behind is no less, and the first is not p
        have hS2 := hS
        rw [hx2] at hS2
        have hS3 := (List.pairwise_append.1 hS2).2.1
        have hS4 := List.pairwise_append.1 hS3
        cases r with
        | nil => intro y hy; simp at hy
        | cons z u =>
          have hz1 : le72 x z = true := hS4.2.2 x (by simp) z (by simp)
          have hz2 := hr z u rfl
          have hz3 := List.pairwise_cons.1 hS4.2.1
          intro y hy
          have hz4 : z.f0 ≤ y.f0 := by
            rcases List.mem_cons.1 hy with rfl | hy
            · exact Int.le_refl _
            · have := hz3.1 y hy
              simpa [le72] using this
          simp [le72] at hz1
          omega
      obtain ⟨pre', hpre'⟩ : ∃ pre', pre ++ (x :: g) = pre' := ⟨_, rfl⟩
      have hs' : s = pre' ++ r := by rw [← hpre', hx2]; simp
      have hpl : pre.length + 1 ≤ pre'.length := by rw [← hpre']; simp
      have hpl2 : pre'.length ≤ s.length := by rw [hs', List.length_append]; omega
      have hple : ∀ y ∈ pre', y.f0 ≤ p := by
        intro y hy
        rw [← hpre', List.mem_append] at hy
        rcases hy with hy | hy
        · have := hlt y hy x (by simp); omega
        · have := hgall y hy; omega
      have hlt' : ∀ y ∈ pre', ∀ z ∈ r, y.f0 < z.f0 := fun y hy z hz2 => by have := hple y hy; have := hSr z hz2; omega
      -- the state for the numbers from p to the next mark
      have hst : ∀ n, p ≤ n → (∀ z ∈ r, n < z.f0) → s.filter (fun x => decide (x.f0 ≤ n)) = pre' := by
        intro n h1 h2
        rw [hs', List.filter_append, filter_all (fun y hy => by have := hple y hy; omega), filter_none h2, List.append_nil]
      have hMp : ∀ n, Mem out n ↔ OnAt L how s n ∧ n < p := by
        intro n
        rw [hM]
        constructor
        · rintro ⟨h1, h2⟩; exact ⟨h1, by have := h2 x (by simp); omega⟩
        · rintro ⟨h1, h2⟩
          refine ⟨h1, fun y hy => ?_⟩
          rcases List.mem_cons.1 hy with rfl | hy
          · omega
          · rw [hgr, List.mem_append] at hy
            rcases hy with hy | hy
            · have := hg y hy; omega
            · have := hSr y hy; omega
      -- what follows the group, for any list out' and its being on or not
      have enter : ∀ {R : List S32}, Ev (fun k => barrowref01_sweep.j4 k L how s (held L.length pre') (posN (held L.length pre')) out (pre'.length : Int) p (onB how L.length (held L.length pre'))) R → Ev (fun k => barrowref01_sweep.l0 k L how s (held L.length pre) (posN (held L.length pre)) out (pre.length : Int)) R := by
        intro R h
        have h2 := sweep_on L how s (held L.length pre') (held_len _ _) out (pre'.length : Int) p R h
        rw [← hpre'] at h2
        have h3 := sweep_l1 L how s hs hm hF R p out r hr (x :: g) pre hx2 hgall h2
        refine Ev.step (fun k => ?_) h3
        rw [barrowref01_sweep.l0, if_pos (by omega), if_pos (by omega), hgt, hp]
      have skip : ∀ {R : List S32}, (onB how L.length (held L.length pre') = false ∨ r = []) → Ev (fun k => barrowref01_sweep.l0 k L how s (held L.length pre') (posN (held L.length pre')) out (pre'.length : Int)) R → Ev (fun k => barrowref01_sweep.l0 k L how s (held L.length pre) (posN (held L.length pre)) out (pre.length : Int)) R := by
        intro R hor h
        refine enter (Ev.step (f := fun k => barrowref01_sweep.j5 k L how s (held L.length pre') (posN (held L.length pre')) out (pre'.length : Int) p true) (fun k => ?_) (Ev.step (fun k => ?_) h))
        · rw [barrowref01_sweep.j4]
          rcases hor with hor | hor
          · rw [hor, if_neg (by decide)]
          · have : pre'.length = s.length := by rw [hs', hor, List.append_nil]
            rw [this, decide_eq_true (by omega)]
            split <;> rfl
        · rw [barrowref01_sweep.j5, if_pos rfl]
      by_cases hend : r = []
      · subst hend
        rw [List.append_nil] at hs'
        have hoff : ∀ n, p ≤ n → ¬ OnAt L how s n := by
          intro n h1 h2
          have := h2.2.2
          rw [hst n h1 (by simp), ← hs', hz] at this
          cases this
        refine ⟨out, skip (.inr rfl) (Ev.step (f := fun _ => some out) (fun k => ?_) (Ev.now _)), ⟨hN, fun n => ?_⟩, by omega⟩
        · rw [barrowref01_sweep.l0, if_neg (by rw [hs']; omega)]
        · rw [hMp]
          constructor
          · exact fun h => h.1
          · intro h
            refine ⟨h, ?_⟩
            rcases Int.lt_or_le n p with h5 | h5
            · exact h5
            · exact absurd h (hoff n h5)
      · obtain ⟨z, u, hzu⟩ : ∃ z u, r = z :: u := by
          cases r with
          | nil => exact absurd rfl hend
          | cons z u => exact ⟨z, u, rfl⟩
        obtain ⟨q, hq⟩ : ∃ q, z.f0 = q := ⟨_, rfl⟩
        have hpq : p < q := by have := hSr z (by rw [hzu]; simp); omega
        have hzF := hF z (by rw [hs', hzu]; simp)
        obtain ⟨_, _, _, fz1, fz2⟩ := hzF
        have hl' : pre'.length < s.length := len_at (qa := u) (r := z) (by rw [hs', hzu])
        have hgz : rd_T76 s (pre'.length : Int) = z := by rw [hs', hzu]; exact rd72 pre' u z _ rfl
        have hru : ∀ y ∈ r, q ≤ y.f0 := by
          have hS2 := hS
          rw [hs', hzu] at hS2
          have hS3 := List.pairwise_cons.1 (List.pairwise_append.1 hS2).2.1
          intro y hy
          rw [hzu] at hy
          rcases List.mem_cons.1 hy with rfl | hy
          · omega
          · have := hS3.1 y hy
            simp [le72] at this
            omega
        have hlen' : r.length ≤ d := by
          have h1 : t.length = g.length + r.length := by rw [hgr, List.length_append]
          simp only [List.length_cons] at hd
          omega
        have hcov : ∀ n, (OnAt L how s n ∧ ∀ y ∈ r, n < y.f0) ↔ (OnAt L how s n ∧ n < p) ∨ (p ≤ n ∧ n < q ∧ n ≤ 1000000000 ∧ onB how L.length (held L.length pre') = true) := by
          intro n
          constructor
          · rintro ⟨h1, h2⟩
            rcases Int.lt_or_le n p with h5 | h5
            · exact .inl ⟨h1, h5⟩
            · have h6 := h1.2.2
              rw [hst n h5 h2] at h6
              exact .inr ⟨h5, by have := h2 z (by rw [hzu]; simp); omega, h1.2.1, h6⟩
          · rintro (⟨h1, h2⟩ | ⟨h1, h2, h3, h4⟩)
            · exact ⟨h1, fun y hy => by have := hru y hy; omega⟩
            · have h5 : ∀ y ∈ r, n < y.f0 := fun y hy => by have := hru y hy; omega
              exact ⟨⟨by omega, h3, by rw [hst n h1 h5]; exact h4⟩, h5⟩
        by_cases hon : onB how L.length (held L.length pre') = true
        · -- a piece [p, q - 1] is put behind
          have main : ∀ out' : List S32, Norm out' → out'.length ≤ pre'.length → (∀ n, Mem out' n ↔ Mem out n ∨ (p ≤ n ∧ n < q ∧ n ≤ 1000000000)) → (∀ k, barrowref01_sweep.j5 (k + 1) L how s (held L.length pre') (posN (held L.length pre')) out (pre'.length : Int) p false = barrowref01_sweep.l0 k L how s (held L.length pre') (posN (held L.length pre')) out' (pre'.length : Int)) →
              ∃ R, Ev (fun k => barrowref01_sweep.l0 k L how s (held L.length pre) (posN (held L.length pre)) out (pre.length : Int)) R ∧ Rep R (OnAt L how s) ∧ R.length ≤ s.length := by
            intro out' hN' hl2 hM' hj
            obtain ⟨R, hR, hRep⟩ := ih pre' r out' hlen' hs' hN' hl2 hlt' (fun n => by rw [hM', hMp, hcov]; simp only [hon, and_true])
            refine ⟨R, enter (Ev.step (f := fun k => barrowref01_sweep.j5 k L how s (held L.length pre') (posN (held L.length pre')) out (pre'.length : Int) p false) (fun k => ?_) (Ev.step hj hR)), hRep⟩
            rw [barrowref01_sweep.j4, hon, if_pos rfl, decide_eq_false (by omega)]
          have hwq : wrap64 (q - 1) = q - 1 := w64 (by omega) (by omega)
          rcases List.eq_nil_or_concat out with hout | ⟨o, y, hout⟩
          · refine main [⟨p, q - 1⟩] ⟨by simp only; omega, by simp only; omega, by simp only; omega, trivial⟩ (by simp only [List.length_singleton]; omega) (fun n => ?_) (fun k => ?_)
            · rw [hout, mem_cons]; simp [mem_nil]; omega
            · rw [barrowref01_sweep.j5, if_neg (by decide), if_pos (by omega), if_pos (by omega), if_neg (by rw [hout]; simp), if_pos (by omega), hgz, hq, hwq, hout]
              rfl
          · rw [List.concat_eq_append] at hout
            have hN2 := hN
            rw [hout] at hN2
            obtain ⟨n1, n2, n3, n4⟩ := (normFrom_snoc o y _).1 hN2
            have hyp : y.f1 < p := by
              have := last_mem hN2
              rw [← hout] at this
              exact ((hMp y.f1).1 this).2
            have hol2 : out.length = o.length + 1 := by rw [hout, List.length_append, List.length_singleton]
            have e1 : wrap64 ((out.length : Int) - 1) = (o.length : Int) := by rw [w64 (by omega) (by omega)]; omega
            have hgy : rd_T32 out (o.length : Int) = y := by rw [hout]; exact rdT o [] y
            have hwp : wrap64 (p - 1) = p - 1 := w64 (by omega) (by omega)
            by_cases hadj : y.f1 = p - 1
            · refine main (o ++ [⟨y.f0, q - 1⟩]) ((normFrom_snoc o _ _).2 ⟨n1, n2, by simp only; omega, by simp only; omega⟩) (by rw [List.length_append, List.length_singleton]; omega) (fun n => ?_) (fun k => ?_)
              · rw [hout, mem_snoc, mem_snoc]
                simp only
                constructor
                · rintro (h | ⟨h1, h2, h3, h4⟩)
                  · exact .inl (.inl h)
                  · rcases Int.lt_or_le n p with h5 | h5
                    · exact .inl (.inr ⟨h1, h2, h3, by omega⟩)
                    · exact .inr ⟨h5, by omega, h2⟩
                · rintro ((h | ⟨h1, h2, h3, h4⟩) | ⟨h1, h2, h3⟩)
                  · exact .inl h
                  · exact .inr ⟨h1, h2, h3, by omega⟩
                  · exact .inr ⟨by omega, h3, by omega, by omega⟩
              · rw [barrowref01_sweep.j5, if_neg (by decide), if_pos (by omega), if_pos (by omega), if_pos (by omega), e1, if_pos (by omega), if_pos (by omega), hgy, hwp, if_pos hadj, hgz, hq, hwq, hout, Int.toNat_natCast, List.set_append_right _ _ (Nat.le_refl _), Nat.sub_self]
                rfl
            · refine main (out ++ [⟨p, q - 1⟩]) (by rw [hout]; exact (normFrom_snoc _ _ _).2 ⟨hN2, by rw [hiOf_snoc]; simp only; omega, by simp only; omega, by simp only; omega⟩) (by rw [List.length_append, List.length_singleton]; omega) (fun n => ?_) (fun k => ?_)
              · rw [mem_snoc]
                simp only
                constructor
                · rintro (h | ⟨h1, h2, h3, h4⟩)
                  · exact .inl h
                  · exact .inr ⟨h3, by omega, h2⟩
                · rintro (h | ⟨h1, h2, h3⟩)
                  · exact .inl h
                  · exact .inr ⟨by omega, h3, h1, by omega⟩
              · rw [barrowref01_sweep.j5, if_neg (by decide), if_pos (by omega), if_pos (by omega), if_pos (by omega), e1, if_pos (by omega), if_pos (by omega), hgy, hwp, if_neg hadj, if_pos (by omega), hgz, hq, hwq]
        · have hoff : onB how L.length (held L.length pre') = false := Bool.eq_false_iff.2 hon
          obtain ⟨R, hR, hRep⟩ := ih pre' r out hlen' hs' hN (by omega) hlt' (fun n => by
            rw [hMp, hcov]
            constructor
            · exact .inl
            · rintro (h | ⟨_, _, _, h⟩)
              · exact h
              · exact absurd h hon)
          exact ⟨R, skip (.inl hoff) hR, hRep⟩
end Go.Proofs.YtlmdcpooogaolaaDoor.Pure

/- What the reference's sweep answers, as sets: union, meet, minus. -/
namespace Go.Proofs.YtlmdcpooogaolaaDoor.Pure
open Go.RowKit Go.Proofs.YtlmdcpooogaolaaDoor.G Go.Proofs.YtlmdcpooogaolaaDoorW.PrintWords Go.Proofs.YtlmdcpooogaolaaDoorW.PrintLast Go.Proofs.YtlmdcpooogaolaaDoorW.PrintMore
set_option linter.unusedVariables false

def dep (n : Int) : List S32 → Int
  | [] => 0
  | r :: t => (if okB r = true ∧ (clipS r).f0 ≤ n ∧ n ≤ (clipS r).f1 then 1 else 0) + dep n t
theorem clip_facts (r : S32) : 1 ≤ (clipS r).f0 ∧ (clipS r).f1 ≤ 1000000000 ∧ (okB r = true ↔ (clipS r).f0 ≤ (clipS r).f1) := by
  refine ⟨?_, ?_, by unfold okB; exact decide_eq_true_iff⟩
  · unfold clipS; simp only; split <;> omega
  · unfold clipS; simp only; split <;> omega
theorem dep_nonneg (n : Int) (l : List S32) : 0 ≤ dep n l := by
  induction l with
  | nil => simp [dep]
  | cons r t ih => simp only [dep]; split <;> omega
theorem dep_pos (n : Int) (l : List S32) (h1 : 1 ≤ n) (h2 : n ≤ 1000000000) : dep n l > 0 ↔ Mem l n := by
  induction l with
  | nil => simp [dep, mem_nil]
  | cons r t ih =>
    have hd := dep_nonneg n t
    rw [mem_cons]
    simp only [dep]
    have hc : (okB r = true ∧ (clipS r).f0 ≤ n ∧ n ≤ (clipS r).f1) ↔ (1 ≤ n ∧ n ≤ 1000000000 ∧ r.f0 ≤ n ∧ n ≤ r.f1) := by
      obtain ⟨_, _, h3⟩ := clip_facts r
      rw [h3]
      unfold clipS
      simp only
      constructor
      · rintro ⟨a, b, c⟩
        split at b <;> split at c <;> exact ⟨h1, h2, by omega, by omega⟩
      · rintro ⟨_, _, b, c⟩
        refine ⟨?_, ?_, ?_⟩ <;> (try split) <;> (try split) <;> omega
    by_cases hx : okB r = true ∧ (clipS r).f0 ≤ n ∧ n ≤ (clipS r).f1
    · rw [if_pos hx]
      exact ⟨fun _ => .inl (hc.1 hx), fun _ => by omega⟩
    · rw [if_neg hx]
      constructor
      · intro h; exact .inr (ih.1 (by omega))
      · rintro (h | h)
        · exact absurd (hc.2 h) hx
        · have := ih.2 h; omega
abbrev upto (n : Int) (l : List S76) : List S76 := l.filter (fun x => decide (x.f0 ≤ n))
theorem tot_mk1 (w v n : Int) (r : S32) : tot w (upto n (mk1 v r)) = if v = w then (if okB r = true ∧ (clipS r).f0 ≤ n ∧ n ≤ (clipS r).f1 then 1 else 0) else 0 := by
  obtain ⟨_, _, h3⟩ := clip_facts r
  unfold mk1 upto
  by_cases ho : okB r = true
  · have hle := h3.1 ho
    rw [if_pos ho]
    simp only [ho, true_and]
    by_cases a : (clipS r).f0 ≤ n
    · by_cases b : (clipS r).f1 + 1 ≤ n
      · rw [List.filter_cons_of_pos (by simpa using a), List.filter_cons_of_pos (by simpa using b), List.filter_nil]
        simp only [tot]
        split
        · rw [if_neg (by omega)]; omega
        · omega
      · rw [List.filter_cons_of_pos (by simpa using a), List.filter_cons_of_neg (by simpa using b), List.filter_nil]
        simp only [tot]
        split
        · rw [if_pos (by omega)]; omega
        · omega
    · rw [List.filter_cons_of_neg (by simpa using a), List.filter_cons_of_neg (by simp; omega), List.filter_nil]
      simp only [tot]
      split
      · rw [if_neg (by omega)]
      · rfl
  · rw [if_neg ho, List.filter_nil]
    simp only [tot]
    split
    · rw [if_neg (fun h => ho h.1)]
    · rfl
theorem tot_mkRow (w v n : Int) (row : List S32) : tot w (upto n (mkRow v row)) = if v = w then dep n row else 0 := by
  induction row with
  | nil => simp [mkRow, tot, dep]
  | cons r t ih =>
    have e : mkRow v (r :: t) = mk1 v r ++ mkRow v t := by unfold mkRow; rw [List.flatMap_cons]
    rw [e]
    unfold upto at *
    rw [List.filter_append, tot_append, ih]
    have := tot_mk1 w v n r
    unfold upto at this
    rw [this]
    simp only [dep]
    split <;> rfl
theorem tot_mkAll_low (w n : Int) (L : List (List S32)) : ∀ b : Int, w < b → tot w (upto n (mkAll b L)) = 0 := by
  induction L with
  | nil => intro b _; rfl
  | cons r t ih =>
    intro b hb
    have h1 := ih (b + 1) (by omega)
    have h2 := tot_mkRow w b n r
    unfold upto at *
    simp only [mkAll]
    rw [List.filter_append, tot_append, h1, h2, if_neg (by omega)]
    rfl
theorem tot_mkAll (n : Int) (L : List (List S32)) : ∀ (b : Int) (j : Nat) (row : List S32), L[j]? = some row → tot (b + (j : Int)) (upto n (mkAll b L)) = dep n row := by
  induction L with
  | nil => intro b j row h; simp at h
  | cons r t ih =>
    intro b j row h
    cases j with
    | zero =>
      simp only [List.getElem?_cons_zero, Option.some.injEq] at h
      subst h
      have h1 := tot_mkAll_low (b + ((0 : Nat) : Int)) n t (b + 1) (by omega)
      have h2 := tot_mkRow (b + ((0 : Nat) : Int)) b n r
      unfold upto at *
      simp only [mkAll]
      rw [List.filter_append, tot_append, h1, h2, if_pos (by omega)]
      omega
    | succ j =>
      simp only [List.getElem?_cons_succ] at h
      have h1 := ih (b + 1) j row h
      have h2 := tot_mkRow (b + ((j + 1 : Nat) : Int)) b n r
      unfold upto at *
      simp only [mkAll]
      rw [List.filter_append, tot_append, h2, if_neg (by omega), show b + ((j + 1 : Nat) : Int) = b + 1 + (j : Int) from by omega, h1]
      omega
theorem held_dep (L : List (List S32)) (s : List S76) (hs : s.Perm (mkAll 0 L)) (n : Int) : held L.length (s.filter (fun x => decide (x.f0 ≤ n))) = L.map (dep n) := by
  apply List.ext_getElem?
  intro j
  unfold held
  rw [List.getElem?_map, List.getElem?_map]
  by_cases hj : j < L.length
  · rw [List.getElem?_range hj, List.getElem?_eq_getElem hj]
    simp only [Option.map_some, Option.some.injEq]
    have h := tot_mkAll n L 0 j L[j] (List.getElem?_eq_getElem hj)
    rw [Int.zero_add] at h
    rw [← h]
    exact tot_perm _ (hs.filter _)
  · rw [List.getElem?_eq_none (by simp; omega), List.getElem?_eq_none (by omega)]
    rfl
theorem mkAll_fair (L : List (List S32)) : ∀ (b : Int) (m : Nat), 0 ≤ b → b + L.length ≤ m → ∀ x ∈ mkAll b L, Fair m x := by
  induction L with
  | nil => intro b m _ _ x hx; simp [mkAll] at hx
  | cons r t ih =>
    intro b m hb hm x hx
    simp only [List.length_cons] at hm
    simp only [mkAll, List.mem_append] at hx
    rcases hx with hx | hx
    · unfold mkRow at hx
      rw [List.mem_flatMap] at hx
      obtain ⟨y, _, hy⟩ := hx
      obtain ⟨h1, h2, h3⟩ := clip_facts y
      unfold mk1 at hy
      split at hy
      · rename_i ho
        have := h3.1 ho
        simp only [List.mem_cons, List.not_mem_nil, or_false] at hy
        rcases hy with rfl | rfl
        · exact ⟨hb, by simp only; omega, .inl rfl, h1, by simp only; omega⟩
        · exact ⟨hb, by simp only; omega, .inr rfl, by simp only; omega, by simp only; omega⟩
      · simp at hy
    · exact ih (b + 1) m (by omega) (by omega) x hx
theorem dep_over (l : List S32) : dep 1000000001 l = 0 := by
  induction l with
  | nil => rfl
  | cons r t ih =>
    obtain ⟨h1, h2, h3⟩ := clip_facts r
    simp only [dep, ih]
    rw [if_neg (by omega)]
    rfl
theorem posN_zero (L : List (List S32)) : posN (L.map (dep 1000000001)) = 0 := by
  induction L with
  | nil => rfl
  | cons r t ih => rw [List.map_cons, posN_cons, ih, dep_over]; rfl
theorem posN_rep (m : Nat) : posN (List.replicate m 0) = 0 := by
  induction m with
  | zero => rfl
  | succ m ih => rw [List.replicate_succ, posN_cons, ih]; rfl
theorem held_nil (m : Nat) : held m [] = List.replicate m 0 := by
  unfold held
  apply List.ext_getElem?
  intro j
  rw [List.getElem?_map, List.getElem?_replicate]
  by_cases hj : j < m
  · rw [List.getElem?_range hj, if_pos hj]; rfl
  · rw [List.getElem?_eq_none (by simp; omega), if_neg hj]; rfl
theorem sweep_ev (L : List (List S32)) (how : Int) (hL : L.length ≤ 4194304) (hr : 2 * L.flatten.length ≤ 4194304) (hh : how = 2 → 0 < L.length) :
    ∃ R, Ev (fun k => barrowref01_sweep.f k L how) R ∧ Rep R (fun n => 1 ≤ n ∧ n ≤ 1000000000 ∧ onB how L.length (L.map (dep n)) = true) ∧ R.length ≤ 2 * L.flatten.length := by
  have hlen := mkAll_len L 0
  obtain ⟨s, hs, hperm, hsrt⟩ := sorted_ev (mkAll 0 L) (by omega)
  have hsl : s.length ≤ 4194304 := by rw [hperm.length_eq]; omega
  have hF : ∀ x ∈ s, Fair L.length x := fun x hx => mkAll_fair L 0 L.length (Int.le_refl _) (by omega) x (hperm.mem_iff.1 hx)
  have hz : onB how L.length (held L.length s) = false := by
    have e := held_dep L s hperm 1000000001
    rw [filter_all (fun x hx => (hF x hx).2.2.2.2)] at e
    rw [e]
    unfold onB
    have hp := posN_zero L
    split
    · rw [hp]; rfl
    · split
      · rename_i h2
        have := hh h2
        rw [hp, beq_eq_false_iff_ne]
        omega
      · rw [hp]; rfl
  obtain ⟨R, hR, hRep, hRl⟩ := sweep_l0 L how s hsl hL hF hsrt hz s.length [] s [] (Nat.le_refl _) rfl trivial (by simp) (by simp) (fun n => by
    constructor
    · intro h; exact absurd h (mem_nil n)
    · rintro ⟨h1, h2⟩
      exfalso
      -- no mark up to n: the state is that of nothing, which is as the state of all
      have e : s.filter (fun x => decide (x.f0 ≤ n)) = [] := filter_none h2
      have e2 := h1.2.2
      rw [e, held_nil] at e2
      unfold onB at e2
      rw [posN_rep] at e2
      split at e2
      · simp at e2
      · split at e2
        · rename_i h3
          have := hh h3
          simp at e2
          omega
        · simp at e2)
  refine ⟨R, ?_, hRep.of (fun n => ?_), by rw [hperm.length_eq] at hRl; omega⟩
  · unfold barrowref01_sweep.f
    refine Ev.bind (marks_ev L hL hr) (Ev.bind hs ?_)
    rw [held_nil, posN_rep] at hR
    refine Ev.congr (fun k => ?_) hR
    rw [if_pos (by omega), if_pos (by omega), Int.toNat_natCast]
    rfl
  · unfold OnAt
    rw [held_dep L s hperm n]
theorem onB_union (L : List (List S32)) (n : Int) (h1 : 1 ≤ n) (h2 : n ≤ 1000000000) : onB 1 L.length (L.map (dep n)) = true ↔ Mem L.flatten n := by
  unfold onB
  rw [if_neg (by decide), if_neg (by decide), decide_eq_true_iff, posN_pos]
  constructor
  · rintro ⟨x, hx, hp⟩
    rw [List.mem_map] at hx
    obtain ⟨l, hl, rfl⟩ := hx
    obtain ⟨a, b, r, hr, c⟩ := (dep_pos n l h1 h2).1 hp
    exact ⟨a, b, r, List.mem_flatten.2 ⟨l, hl, hr⟩, c⟩
  · rintro ⟨a, b, r, hr, c⟩
    obtain ⟨l, hl, hr2⟩ := List.mem_flatten.1 hr
    exact ⟨dep n l, List.mem_map.2 ⟨l, hl, rfl⟩, (dep_pos n l h1 h2).2 ⟨a, b, r, hr2, c⟩⟩
theorem sweep_union (L : List (List S32)) (hL : L.length ≤ 4194304) (hr : 2 * L.flatten.length ≤ 4194304) : Ev (fun k => barrowref01_sweep.f k L 1) (canon L.flatten) := by
  obtain ⟨R, hR, hRep, hRl⟩ := sweep_ev L 1 hL hr (fun h => absurd h (by decide))
  have : R = canon L.flatten := Rep.unique hRep ((canon_rep L.flatten).of (fun n => by
    constructor
    · intro h; exact ⟨h.1, h.2.1, (onB_union L n h.1 h.2.1).2 h⟩
    · rintro ⟨h1, h2, h3⟩; exact (onB_union L n h1 h2).1 h3))
  rw [← this]
  exact hR
end Go.Proofs.YtlmdcpooogaolaaDoor.Pure

/- RfN in plain Lean. -/
namespace Go.Proofs.YtlmdcpooogaolaaDoor.Pure
open Go.RowKit Go.Proofs.YtlmdcpooogaolaaDoor.G Go.Proofs.YtlmdcpooogaolaaDoorW.PrintWords Go.Proofs.YtlmdcpooogaolaaDoorW.PrintLast Go.Proofs.YtlmdcpooogaolaaDoorW.PrintMore
set_option linter.unusedVariables false
theorem refNorm_ev (l : List S32) (h : l.length ≤ 2097152) : Ev (fun k => barrowref01_Norm.f k l) (canon l) := by
  have hU := sweep_union [l] (by simp) (by simp; omega)
  have eU : ([l] : List (List S32)).flatten = l := by simp
  rw [eU] at hU
  unfold barrowref01_Norm.f
  exact Ev.bind hU (Ev.now _)
end Go.Proofs.YtlmdcpooogaolaaDoor.Pure

-- PRINTED by print.py (a twelfth state) out of the translation. Not trusted: Lean checks it.
namespace Go.Proofs.YtlmdcpooogaolaaDoor.G
open Go.RowKit Go.Proofs.YtlmdcpooogaolaaDoorW.PrintWords Go.Proofs.YtlmdcpooogaolaaDoorW.PrintLast Go.Proofs.YtlmdcpooogaolaaDoorW.PrintMore
attribute [local go_sem] max2_int min2_int max_two min_two max_three min_three max_four min_four   -- for this text's walks alone
set_option linter.unusedVariables false
set_option linter.unusedSimpArgs false

/-! ### barrowref01_number: function 24 -/
mutual
def barrowref01_number.j0 : Nat → ByteArray → Bool → Option (Int × Bool)
 | 0, _, _ => none
 | k + 1, x0, x13 => if x13 = true then (some (0, false)) else (barrowref01_number.l0 k x0 0 0)
def barrowref01_number.l0 : Nat → ByteArray → Int → Int → Option (Int × Bool)
 | 0, _, _, _ => none
 | k + 1, x0, x4, x5 => if x5 < (x0.size : Int) then (if 0 ≤ x5 then (if (bt x0 x5) < 48 then (some (0, false)) else (if (bt x0 x5) > 57 then (some (0, false)) else (barrowref01_number.l0 k x0 (wrap64 ((wrap64 (10 * x4)) + (((bt x0 x5) - 48) % 256))) (wrap64 (x5 + 1))))) else (none)) else (some (x4, true))
end
def barrowref01_number.f (k : Nat) (a0 : ByteArray) : Option (Int × Bool) := if (a0.size : Int) = 0 then (barrowref01_number.j0 k a0 true) else (barrowref01_number.j0 k a0 (decide ((a0.size : Int) > 10)))
theorem barrowref01_number.mono_l : ∀ k, (∀ y0 y1, LeO (barrowref01_number.j0 k y0 y1) (barrowref01_number.j0 (k + 1) y0 y1)) ∧ (∀ y0 y1 y2, LeO (barrowref01_number.l0 k y0 y1 y2) (barrowref01_number.l0 (k + 1) y0 y1 y2))
 | 0 => ⟨fun _ _ r h => by simp [barrowref01_number.j0] at h, fun _ _ _ r h => by simp [barrowref01_number.l0] at h⟩
 | k + 1 => by
  obtain ⟨ih0, ih1⟩ := barrowref01_number.mono_l k
  refine ⟨?_, ?_⟩
  ·intro y0 y1
   unfold barrowref01_number.j0
   repeat' first
   | (with_reducible exact ih0 _ _)
   | (with_reducible exact ih1 _ _ _)
   | (with_reducible exact LeO.refl _)
   | (with_reducible exact LeO.none _)
   | (with_reducible refine LeO.ite ?_ ?_)
   | (with_reducible refine LeO.bind ?_ (fun _ => ?_))
   | exact ih0 _ _
   | exact ih1 _ _ _
   | exact LeO.none _
   | refine LeO.ite ?_ ?_
   | refine LeO.bind ?_ (fun _ => ?_)
  ·intro y0 y1 y2
   unfold barrowref01_number.l0
   repeat' first
   | (with_reducible exact ih0 _ _)
   | (with_reducible exact ih1 _ _ _)
   | (with_reducible exact LeO.refl _)
   | (with_reducible exact LeO.none _)
   | (with_reducible refine LeO.ite ?_ ?_)
   | (with_reducible refine LeO.bind ?_ (fun _ => ?_))
   | exact ih0 _ _
   | exact ih1 _ _ _
   | exact LeO.none _
   | refine LeO.ite ?_ ?_
   | refine LeO.bind ?_ (fun _ => ?_)
theorem barrowref01_number.mono : ∀ a0 k, LeO (barrowref01_number.f k a0) (barrowref01_number.f (k + 1) a0) := by
 intro a0 k
 obtain ⟨ih0, ih1⟩ := barrowref01_number.mono_l k
 unfold barrowref01_number.f
 repeat' first
   | (with_reducible exact ih0 _ _)
   | (with_reducible exact ih1 _ _ _)
   | (with_reducible exact LeO.refl _)
   | (with_reducible exact LeO.none _)
   | (with_reducible refine LeO.ite ?_ ?_)
   | (with_reducible refine LeO.bind ?_ (fun _ => ?_))
   | exact ih0 _ _
   | exact ih1 _ _ _
   | exact LeO.none _
   | refine LeO.ite ?_ ?_
   | refine LeO.bind ?_ (fun _ => ?_)
set_option maxHeartbeats 8000000 in
set_option maxRecDepth 100000 in
theorem barrowref01_number.calls (k : Nat) (a0 : ByteArray) (r1 : Int) (r2 : Bool) (w : World) (h : barrowref01_number.f k a0 = some (r1, r2)) :
  Calls Tryd.prog 24 #[.string a0] w fun e w' => e = .returned (.tuple #[.int .i64 r1, .bool r2]) ∧ Drawn0 w w' := by
 have H : (if (a0.size : Int) = 0 then (barrowref01_number.j0 k a0 true) else (barrowref01_number.j0 k a0 (decide ((a0.size : Int) > 10)))) = some (r1, r2) := h
 clear h
 have HC2 := Aside0.mk H
 clear H
 go_enter Tryd.func24, Tryd.ntmps24
 go_upto_region 1 with (fail)
 go_cut [13] (fun v13 wc => ∃ (kq : Nat) (x13_1 : Bool), v13 = .bool x13_1 ∧ Aside0 (barrowref01_number.j0 kq a0 x13_1 = some (r1, r2)) ∧ Aside0 (kq ≤ k) ∧ Drawn0 w wc)
 case first =>
  have H := HC2.out
  clear HC2
  by_cases c3 : (a0.size : Int) = 0
  ·rw [if_pos c3] at H
   have c3b0 : ((a0.size : Int) == 0) = true := beq_iff_eq.mpr c3
   have c3b1 : ((a0.size : Int) != 0) = false := bne_eq_false_iff_eq.mpr c3
   clear c3
   (first | rw [c3b0] | (simp only [i64_w, i32_w]; rw [c3b0]) | skip)
   have H' := Aside0.mk H
   clear H
   go_wp2
   go_meet
   case rel => exact ⟨_, (true), (by first | rfl | (simp; done) | (simp [*]; done)), H', ⟨by first | omega | exact Nat.le_refl _⟩, by repeat (first | exact Drawn0.refl _ | apply Drawn0.step)⟩
  ·rw [if_neg c3] at H
   have c3b0 : ((a0.size : Int) == 0) = false := beq_eq_false_iff_ne.mpr c3
   have c3b1 : ((a0.size : Int) != 0) = true := bne_iff_ne.mpr c3
   (first | rw [c3b0] | (simp only [i64_w, i32_w]; rw [c3b0]) | skip)
   have H' := Aside0.mk H
   clear H
   go_wp2
   go_meet
   case rel => exact ⟨_, (decide ((a0.size : Int) > 10)), (by first | rfl | (simp; done) | (simp [*]; done)), H', ⟨by first | omega | exact Nat.le_refl _⟩, by repeat (first | exact Drawn0.refl _ | apply Drawn0.step)⟩
 case rest =>
  clear HC2
  try clear c2
  try clear p2
  try clear c3
  try clear c3b0
  try clear c3b1
  obtain ⟨kq, x13_1, rfl, HA, HJ1, ⟨mc1, rfl⟩⟩ := hcut
  cases kq with
  | zero => exact absurd HA.out (by simp [barrowref01_number.j0])
  | succ kj1 =>
   have H := HA.out
   clear HA
   simp only [barrowref01_number.j0] at H
   by_cases c4 : x13_1 = true
   ·subst c4
    have H1 : (some (0, false)) = some (r1, r2) := by rw [if_pos rfl] at H; exact H
    clear H
    have H := H1
    clear H1
    simp only [Option.some.injEq, Prod.mk.injEq] at H
    obtain ⟨rfl, rfl⟩ := H
    go_wp2
    go_ret2
    exact ⟨by first | rfl | (simp; done) | (simp [*]; done), by repeat (first | exact Drawn0.refl _ | apply Drawn0.step)⟩
   ·replace c4 := Bool.eq_false_iff.mpr c4
    subst c4
    have H1 : (barrowref01_number.l0 kj1 a0 0 0) = some (r1, r2) := by rw [if_neg (show ¬ (false = true) by decide)] at H; exact H
    clear H
    have H := H1
    clear H1
    have H' := Aside0.mk H
    clear H
    go_wp2
    go_loopg [4, 5] kj1 (fun kq v4 v5 w' => ∃ (x4_2 : Int) (x5_2 : Int), v4 = .int .i64 x4_2 ∧ v5 = .int .i64 x5_2 ∧ Aside0 (barrowref01_number.l0 kq a0 x4_2 x5_2 = some (r1, r2)) ∧ Aside0 (kq ≤ kj1) ∧ Drawn0 w w')
    case atStart => exact ⟨(0), (0), (by first | rfl | (simp; done) | (simp [*]; done)), (by first | rfl | (simp; done) | (simp [*]; done)), H', ⟨Nat.le_refl _⟩, by repeat (first | exact Drawn0.refl _ | apply Drawn0.step)⟩
    case round =>
     clear H'
     try clear c1
     try clear c2
     try clear p2
     try clear c3
     try clear c3b0
     try clear c3b1
     try clear c4
     try clear p2
     obtain ⟨x4_2, x5_2, rfl, rfl, HA, HK2, ⟨m2, rfl⟩⟩ := hrel
     cases gk with
     | zero => exact absurd HA.out (by simp [barrowref01_number.l0])
     | succ k2 =>
      have H := HA.out
      clear HA
      simp only [barrowref01_number.l0] at H
      by_cases c5 : x5_2 < (a0.size : Int)
      ·rw [if_pos c5] at H
       have c5b0 : decide (x5_2 < (a0.size : Int)) = true := decide_eq_true c5
       clear c5
       by_cases c6 : 0 ≤ x5_2
       ·rw [if_pos c6] at H
        have c6b0 : decide (0 ≤ x5_2) = true := decide_eq_true c6
        clear c6
        by_cases c8 : (bt a0 x5_2) < 48
        ·rw [if_pos c8] at H
         have c8b0 : decide ((bt a0 x5_2) < 48) = true := decide_eq_true c8
         clear c8
         simp only [Option.some.injEq, Prod.mk.injEq] at H
         obtain ⟨rfl, rfl⟩ := H
         have p7 : 0 ≤ (x5_2 : Int) := of_decide_eq_true (by first | (with_reducible assumption) | assumption)
         have q7 : x5_2 < (a0.size : Int) := of_decide_eq_true (by first | (with_reducible assumption) | assumption)
         have hx7 := bt_at a0 x5_2
         replace p7 := eq_true p7
         replace q7 := eq_true q7
         go_wp2
         go_ret2
         exact ⟨by first | rfl | (simp; done) | (simp [*]; done), by repeat (first | exact Drawn0.refl _ | apply Drawn0.step)⟩
        ·rw [if_neg c8] at H
         have c8b0 : decide ((bt a0 x5_2) < 48) = false := decide_eq_false c8
         clear c8
         by_cases c10 : (bt a0 x5_2) > 57
         ·rw [if_pos c10] at H
          have c10b0 : decide (57 < (bt a0 x5_2)) = true := decide_eq_true c10
          clear c10
          simp only [Option.some.injEq, Prod.mk.injEq] at H
          obtain ⟨rfl, rfl⟩ := H
          have p7 : 0 ≤ (x5_2 : Int) := of_decide_eq_true (by first | (with_reducible assumption) | assumption)
          have q7 : x5_2 < (a0.size : Int) := of_decide_eq_true (by first | (with_reducible assumption) | assumption)
          have hx7 := bt_at a0 x5_2
          replace p7 := eq_true p7
          replace q7 := eq_true q7
          have p9 : 0 ≤ (x5_2 : Int) := of_decide_eq_true (by first | (with_reducible assumption) | assumption)
          have q9 : x5_2 < (a0.size : Int) := of_decide_eq_true (by first | (with_reducible assumption) | assumption)
          have hx9 := bt_at a0 x5_2
          replace p9 := eq_true p9
          replace q9 := eq_true q9
          go_wp2
          go_ret2
          exact ⟨by first | rfl | (simp; done) | (simp [*]; done), by repeat (first | exact Drawn0.refl _ | apply Drawn0.step)⟩
         ·rw [if_neg c10] at H
          have c10b0 : decide (57 < (bt a0 x5_2)) = false := decide_eq_false c10
          clear c10
          have H' := Aside0.mk H
          clear H
          have p7 : 0 ≤ (x5_2 : Int) := of_decide_eq_true (by first | (with_reducible assumption) | assumption)
          have q7 : x5_2 < (a0.size : Int) := of_decide_eq_true (by first | (with_reducible assumption) | assumption)
          have hx7 := bt_at a0 x5_2
          replace p7 := eq_true p7
          replace q7 := eq_true q7
          have p9 : 0 ≤ (x5_2 : Int) := of_decide_eq_true (by first | (with_reducible assumption) | assumption)
          have q9 : x5_2 < (a0.size : Int) := of_decide_eq_true (by first | (with_reducible assumption) | assumption)
          have hx9 := bt_at a0 x5_2
          replace p9 := eq_true p9
          replace q9 := eq_true q9
          have p11 : 0 ≤ (x5_2 : Int) := of_decide_eq_true (by first | (with_reducible assumption) | assumption)
          have q11 : x5_2 < (a0.size : Int) := of_decide_eq_true (by first | (with_reducible assumption) | assumption)
          have hx11 := bt_at a0 x5_2
          replace p11 := eq_true p11
          replace q11 := eq_true q11
          go_wp2
          go_roundg k2
          case measure => have := HJ1.out; have := HK2.out; omega
          case rel => exact ⟨(wrap64 ((wrap64 (10 * x4_2)) + (((bt a0 x5_2) - 48) % 256))), (wrap64 (x5_2 + 1)), (by first | rfl | (simp; done) | (simp [*]; done)), (by first | rfl | (simp; done) | (simp [*]; done)), H', ⟨by have := HJ1.out; have := HK2.out; omega⟩, by repeat (first | exact Drawn0.refl _ | apply Drawn0.step)⟩
       ·rw [if_neg c6] at H
        exact absurd H (by simp)
      ·rw [if_neg c5] at H
       have c5b0 : decide (x5_2 < (a0.size : Int)) = false := decide_eq_false c5
       clear c5
       simp only [Option.some.injEq, Prod.mk.injEq] at H
       obtain ⟨rfl, rfl⟩ := H
       go_wp2
       go_ret2
       exact ⟨by first | rfl | (simp; done) | (simp [*]; done), by repeat (first | exact Drawn0.refl _ | apply Drawn0.step)⟩

end Go.Proofs.YtlmdcpooogaolaaDoor.G
