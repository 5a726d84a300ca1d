import Derived.Test.YtlmdcpooogaolaaDoorQTh7
import Derived.Test.YtlmdcpooogaolaaDoorQTh14
import Derived.Test.YtlmdcpooogaolaaDoorQTh20
import Derived.Test.YtlmdcpooogaolaaDoorQTh18
-- PRINTED by print.py (a twelfth state) out of the translation. Not trusted: Lean checks it.
namespace Go.Proofs.YtlmdcpooogaolaaDoor.G
open Go.RowKit Go.Proofs.YtlmdcpooogaolaaDoorW.PrintWords Go.Proofs.YtlmdcpooogaolaaDoorW.PrintLast Go.Proofs.YtlmdcpooogaolaaDoorW.PrintMore
attribute [local go_sem] max2_int min2_int max_two min_two max_three min_three max_four min_four   -- for this text's walks alone
set_option linter.unusedVariables false
set_option linter.unusedSimpArgs false

/-! ### barrowlaw01_SpanThere: function 5 -/
mutual
def barrowlaw01_SpanThere.j0 : Nat → List (S32) → ByteArray → Bool → Option (Bool)
 | 0, _, _, _ => none
 | k + 1, x0, x1, x27 => if x27 = true then (some false) else ((span_Show.f k x0).bind fun t305 => ((span_Read.f t305).bind fun bt306 => (if bt306.2 = 0 then ((span_Norm.f k x0).bind fun t310 => ((barrowref01_Equal.f k bt306.1 t310).bind fun t313 => (barrowlaw01_SpanThere.j1 k x1 (!t313)))) else (barrowlaw01_SpanThere.j1 k x1 true))))
def barrowlaw01_SpanThere.j1 : Nat → ByteArray → Bool → Option (Bool)
 | 0, _, _ => none
 | k + 1, x1, x42 => if x42 = true then (some false) else ((span_Read.f x1).bind fun bt314 => (if bt314.2 = 0 then ((span_Show.f k bt314.1).bind fun t318 => (if t318.toList = x1.toList then ((span_IsNorm.f k bt314.1).bind fun t319 => (some t319)) else (some false))) else (some ((bt314.1.length : Int) == 0))))
end
def barrowlaw01_SpanThere.f (k : Nat) (l0 : List (S32)) (a1 : ByteArray) : Option (Bool) := (span_Show.f k (([(⟨2, 2⟩ : S32)] : List (S32)))).bind fun t299 => ((span_Read.f t299).bind fun bt300 => (if bt300.2 = 0 then (if (bt300.1.length : Int) = 1 then (if 0 < (bt300.1.length : Int) then (barrowlaw01_SpanThere.j0 k l0 a1 (((rd_T32 bt300.1 0).f0) != 2)) else (none)) else (barrowlaw01_SpanThere.j0 k l0 a1 true)) else (barrowlaw01_SpanThere.j0 k l0 a1 true)))
theorem barrowlaw01_SpanThere.mono_l : ∀ k, (∀ y0 y1 y2, LeO (barrowlaw01_SpanThere.j0 k y0 y1 y2) (barrowlaw01_SpanThere.j0 (k + 1) y0 y1 y2)) ∧ (∀ y0 y1, LeO (barrowlaw01_SpanThere.j1 k y0 y1) (barrowlaw01_SpanThere.j1 (k + 1) y0 y1))
 | 0 => ⟨fun _ _ _ r h => by simp [barrowlaw01_SpanThere.j0] at h, fun _ _ r h => by simp [barrowlaw01_SpanThere.j1] at h⟩
 | k + 1 => by
  obtain ⟨ih0, ih1⟩ := barrowlaw01_SpanThere.mono_l k
  refine ⟨?_, ?_⟩
  ·intro y0 y1 y2
   unfold barrowlaw01_SpanThere.j0
   repeat' first
   | (with_reducible exact ih0 _ _ _)
   | (with_reducible exact ih1 _ _)
   | (with_reducible exact barrowref01_Equal.mono _ _ _)
   | (with_reducible exact span_IsNorm.mono _ _)
   | (with_reducible exact span_Norm.mono _ _)
   | (with_reducible exact span_Show.mono _ _)
   | (with_reducible exact LeO.refl _)
   | (with_reducible exact LeO.none _)
   | (with_reducible refine LeO.ite ?_ ?_)
   | (with_reducible refine LeO.bind ?_ (fun _ => ?_))
   | exact ih0 _ _ _
   | exact ih1 _ _
   | exact barrowref01_Equal.mono _ _ _
   | exact span_IsNorm.mono _ _
   | exact span_Norm.mono _ _
   | exact span_Show.mono _ _
   | exact LeO.none _
   | refine LeO.ite ?_ ?_
   | refine LeO.bind ?_ (fun _ => ?_)
  ·intro y0 y1
   unfold barrowlaw01_SpanThere.j1
   repeat' first
   | (with_reducible exact ih0 _ _ _)
   | (with_reducible exact ih1 _ _)
   | (with_reducible exact barrowref01_Equal.mono _ _ _)
   | (with_reducible exact span_IsNorm.mono _ _)
   | (with_reducible exact span_Norm.mono _ _)
   | (with_reducible exact span_Show.mono _ _)
   | (with_reducible exact LeO.refl _)
   | (with_reducible exact LeO.none _)
   | (with_reducible refine LeO.ite ?_ ?_)
   | (with_reducible refine LeO.bind ?_ (fun _ => ?_))
   | exact ih0 _ _ _
   | exact ih1 _ _
   | exact barrowref01_Equal.mono _ _ _
   | exact span_IsNorm.mono _ _
   | exact span_Norm.mono _ _
   | exact span_Show.mono _ _
   | exact LeO.none _
   | refine LeO.ite ?_ ?_
   | refine LeO.bind ?_ (fun _ => ?_)
theorem barrowlaw01_SpanThere.mono : ∀ a0 a1 k, LeO (barrowlaw01_SpanThere.f k a0 a1) (barrowlaw01_SpanThere.f (k + 1) a0 a1) := by
 intro a0 a1 k
 obtain ⟨ih0, ih1⟩ := barrowlaw01_SpanThere.mono_l k
 unfold barrowlaw01_SpanThere.f
 repeat' first
   | (with_reducible exact ih0 _ _ _)
   | (with_reducible exact ih1 _ _)
   | (with_reducible exact barrowref01_Equal.mono _ _ _)
   | (with_reducible exact span_IsNorm.mono _ _)
   | (with_reducible exact span_Norm.mono _ _)
   | (with_reducible exact span_Show.mono _ _)
   | (with_reducible exact LeO.refl _)
   | (with_reducible exact LeO.none _)
   | (with_reducible refine LeO.ite ?_ ?_)
   | (with_reducible refine LeO.bind ?_ (fun _ => ?_))
   | exact ih0 _ _ _
   | exact ih1 _ _
   | exact barrowref01_Equal.mono _ _ _
   | exact span_IsNorm.mono _ _
   | exact span_Norm.mono _ _
   | exact span_Show.mono _ _
   | exact LeO.none _
   | refine LeO.ite ?_ ?_
   | refine LeO.bind ?_ (fun _ => ?_)
set_option maxHeartbeats 8000000 in
set_option maxRecDepth 100000 in
theorem barrowlaw01_SpanThere.calls (k : Nat) (A0 : Option Addr) (c0 : Nat) (l0 : List (S32)) (a1 : ByteArray) (r : Bool) (w : World) (hTab : Aside0 (Tab w)) (hTabM : Aside0 (TabM w)) (hr0 : Kd.C k32 w A0 l0.length l0) (hc0 : l0.length ≤ c0) (h : barrowlaw01_SpanThere.f k l0 a1 = some r) :
  Calls Tryd.prog 5 #[.slice A0 l0.length c0, .string a1] w fun e w' => e = .returned (.bool r) ∧ Below w.heap.size w w' := by
 have hu32 := Tryd.underlying32
 have HR0 := Aside0.mk hr0
 have HC0 := Aside0.mk hc0
 clear hr0 hc0
 have HB := Aside0.mk (Below.refl w.heap.size w)
 have H : ((span_Show.f k (([(⟨2, 2⟩ : S32)] : List (S32)))).bind fun t299 => ((span_Read.f t299).bind fun bt300 => (if bt300.2 = 0 then (if (bt300.1.length : Int) = 1 then (if 0 < (bt300.1.length : Int) then (barrowlaw01_SpanThere.j0 k l0 a1 (((rd_T32 bt300.1 0).f0) != 2)) else (none)) else (barrowlaw01_SpanThere.j0 k l0 a1 true)) else (barrowlaw01_SpanThere.j0 k l0 a1 true)))) = some r := h
 clear h
 obtain ⟨y296, hy296⟩ : ∃ y_ : List (S32), y_ = (([(⟨2, 2⟩ : S32)] : List (S32))) := ⟨_, rfl⟩
 replace H : ((span_Show.f k y296).bind fun t299 => ((span_Read.f t299).bind fun bt300 => (if bt300.2 = 0 then (if (bt300.1.length : Int) = 1 then (if 0 < (bt300.1.length : Int) then (barrowlaw01_SpanThere.j0 k l0 a1 (((rd_T32 bt300.1 0).f0) != 2)) else (none)) else (barrowlaw01_SpanThere.j0 k l0 a1 true)) else (barrowlaw01_SpanThere.j0 k l0 a1 true)))) = some r := by first | (rw [hy296]; with_reducible exact H) | (have H2_ := (Option.bind_some _ _).symm.trans H; rw [hy296]; with_reducible exact H2_) | (have H2_ := (Option.bind_some _ _).symm.trans H; with_reducible exact H2_) | with_reducible exact H | (rw [hy296]; exact H) | exact H
 have Ny296 := Aside0.mk hy296
 clear hy296
 replace H := Option.bind_eq_some_iff.mp H
 obtain ⟨t299, A30, H⟩ := H
 replace H : ((span_Read.f t299).bind fun bt300 => (if bt300.2 = 0 then (if (bt300.1.length : Int) = 1 then (if 0 < (bt300.1.length : Int) then (barrowlaw01_SpanThere.j0 k l0 a1 (((rd_T32 bt300.1 0).f0) != 2)) else (none)) else (barrowlaw01_SpanThere.j0 k l0 a1 true)) else (barrowlaw01_SpanThere.j0 k l0 a1 true))) = some r := H
 have A3 := Aside0.mk A30
 clear A30
 replace H := Option.bind_eq_some_iff.mp H
 obtain ⟨⟨t300, t301⟩, A40, H⟩ := H
 replace H : (if t301 = 0 then (if (t300.length : Int) = 1 then (if 0 < (t300.length : Int) then (barrowlaw01_SpanThere.j0 k l0 a1 (((rd_T32 t300 0).f0) != 2)) else (none)) else (barrowlaw01_SpanThere.j0 k l0 a1 true)) else (barrowlaw01_SpanThere.j0 k l0 a1 true)) = some r := H
 have A4 := Aside0.mk A40
 clear A40
 have HC5 := Aside0.mk H
 clear H
 go_enter Tryd.func5, Tryd.ntmps5
 go_upto_region 2 with (first | ((with_reducible refine gate_dst (N := 9) rfl ?_); (try (refine gate_guard (by rfl) ?_; dsimp only)); refine Kd.R_lit k32 _ 32 ?hg (N := 9) ?hd (xs := ([(⟨2, 2⟩ : S32)] : List (S32))) (inner := [.int .i64 2, .int .i64 2]) (ok := fun _ => True) (okp := fun _ => True) ?hr ?hp (fun _ hk => hk) trivial (Below.refl _ _) (Nat.le_refl _) (by simp) ?_; (case hd => rfl); (case hg => rfl); (case hr => first | (go_simp; done) | (go_simp; rfl)); (case hp => exact (Reps.c2 (show Kd.M k32 _ _ _ (⟨2, 2⟩ : S32) [.int .i64 2, .int .i64 2] from (k32_mkM _ _ _ (⟨2, 2⟩ : S32) )) (Reps.none _ _))); intro v297 w6 ho7 hb hg_ hnew_; clear hg_ hnew_; (first | rw [← Ny296.out] at ho7 | (simp only [Int.reduceToNat] at ho7; rw [← Ny296.out] at ho7)); have n0_ := Aside0.mk (Kd.R_lower ho7 (below_size (by repeat (first | (with_reducible first | exact HB.out | apply below_alloc | apply pw_below_drewN | apply below_drew1) | exact HB.out)))); have n1_ := Aside0.mk (below_step (by repeat (first | (with_reducible first | exact HB.out | apply below_alloc | apply pw_below_drewN | apply below_drew1) | exact HB.out)) hb); clear HB; have HO298 := n0_; have HB := n1_; clear n0_ n1_; clear hb ho7; obtain ⟨Ao8, co8, eo8⟩ := Kd.R_slice HO298.out; subst eo8) | ((with_reducible refine gate_callee (f := 9) rfl ?_); refine goesL_ (some 10) rfl rfl Tryd.func9 (by kernel_rfl) rfl #[.slice Ao8 y296.length co8] rfl (by (try simp only [List.map_toArray, List.map_cons, List.map_nil]); first | done | rfl | (simp only [List.length_drop, List.length_take]; rfl)) ?_; (with_reducible refine (span_Show.calls k _ _ y296 t299 _ ?tab1_ ?side1 ?side2 A3.out).mono ?_); (case tab1_ => exact tab_keep hTab (by repeat (first | (with_reducible first | exact HB.out | apply below_alloc | apply pw_below_drewN | apply below_drew1) | exact HB.out | fail))); (case side1 => repeat (first | exact (Kd.R_reads' HO298.out).2.2 | (with_reducible refine Kd.C_alloc ?_ _) | (with_reducible refine Kd.C_drewN ?_ _) | (with_reducible refine Kd.C_drew ?_))); (case side2 => exact (Kd.R_reads' HO298.out).2.1); rintro e w9 ⟨rfl, hb⟩; refine ⟨_, rfl, ?_⟩; have n0_ := Aside0.mk (Kd.R_below (by (with_reducible repeat (first | apply Kd.R_alloc | apply Kd.R_drewN | apply Kd.R_drew)); exact HO298.out) hb); have n1_ := Aside0.mk (below_step (by repeat (first | (with_reducible first | exact HB.out | apply below_alloc | apply pw_below_drewN | apply below_drew1) | exact HB.out)) hb); clear HO298; clear HB; have HO298 := n0_; have HB := n1_; clear n0_ n1_; (try clear hb); (try clear hb2); (try clear hk); (try clear hi)) | ((with_reducible refine gate_callee (f := 6) rfl ?_); refine goesL_ (some 11) rfl rfl Tryd.func6 (by kernel_rfl) rfl #[.string t299] rfl (by (try simp only [List.map_toArray, List.map_cons, List.map_nil]); first | done | rfl | (simp only [List.length_drop, List.length_take]; rfl)) ?_; (with_reducible refine (span_Read.calls t299 t300 t301 _ ?tab2_ A4.out).mono ?_); (case tab2_ => exact tabM_keep hTabM (by repeat (first | (with_reducible first | exact HB.out | apply below_alloc | apply pw_below_drewN | apply below_drew1) | exact HB.out | fail))); rintro e w10 ⟨v302, rfl, ho0, hb⟩; refine ⟨_, rfl, ?_⟩; have n0_ := Aside0.mk (Kd.R_elder' (by (with_reducible repeat (first | apply Kd.R_alloc | apply Kd.R_drewN | apply Kd.R_drew)); exact HO298.out) (Kd.R_base ho0) hb); have n1_ := Aside0.mk (Kd.R_lower (Kd.R_new' ho0 (Kd.R_lt (by (with_reducible repeat (first | apply Kd.R_alloc | apply Kd.R_drewN | apply Kd.R_drew)); exact HO298.out))) (below_size (by repeat (first | (with_reducible first | exact HB.out | apply below_alloc | apply pw_below_drewN | apply below_drew1) | exact HB.out)))); have n2_ := Aside0.mk (below_step (by repeat (first | (with_reducible first | exact HB.out | apply below_alloc | apply pw_below_drewN | apply below_drew1) | exact HB.out)) hb); clear HO298; clear HB; have HO298 := n0_; have HO303 := n1_; have HB := n2_; clear n0_ n1_ n2_; (try clear hb); (try clear hb2); (try clear hk); (try clear hi); (try clear ho0)))
 (try simp only [Act.put, List.setIfInBounds_toArray, List.set_cons_zero, List.set_cons_succ])
 go_cut [27] (fun v27 wc => ∃ (kq : Nat) (x27_4 : Bool), v27 = .bool x27_4 ∧ Aside0 (barrowlaw01_SpanThere.j0 kq l0 a1 x27_4 = some r) ∧ Aside0 (kq ≤ k) ∧ Aside0 (Below w.heap.size w wc))
 case first =>
  have H := HC5.out
  clear HC5
  by_cases c11 : t301 = 0
  ·rw [if_pos c11] at H
   have c11b0 : (t301 == 0) = true := beq_iff_eq.mpr c11
   have c11b1 : (t301 != 0) = false := bne_eq_false_iff_eq.mpr c11
   clear c11
   (first | rw [c11b0] | (simp only [i64_w, i32_w]; rw [c11b0]) | skip)
   by_cases c12 : (t300.length : Int) = 1
   ·rw [if_pos c12] at H
    have c12b0 : ((t300.length : Int) == 1) = true := beq_iff_eq.mpr c12
    have c12b1 : ((t300.length : Int) != 1) = false := bne_eq_false_iff_eq.mpr c12
    clear c12
    by_cases c13 : 0 < (t300.length : Int)
    ·rw [if_pos c13] at H
     have c13b0 : decide (0 < (t300.length : Int)) = true := decide_eq_true c13
     have c13b1 : decide (0 < t300.length) = true := decide_eq_true (by omega)
     clear c13
     have H' := Aside0.mk H
     clear H
     obtain ⟨Ao14, co14, eo14⟩ := Kd.R_slice HO303.out
     subst eo14
     have p304 : 0 ≤ (0 : Int) := (by omega)
     have q304 : 0 < (t300.length : Int) := of_decide_eq_true (by first | (with_reducible assumption) | assumption)
     obtain ⟨ad304, e304, hx304_0, hx304_1⟩ := at_T32 (Kd.R_reads' HO303.out).2.2 0 p304 q304
     cases e304
     have qi304 : (0 < t300.length) = True := eq_true (by omega)
     (try rw [show ((0 : Int)).toNat = 0 from rfl] at hx304_0)
     (try rw [show 0 * 2 = 0 from rfl] at hx304_0)
     (try rw [Addr.add_zero'] at hx304_0)
     (try rw [show ((0 : Int)).toNat = 0 from rfl] at hx304_1)
     (try rw [show 0 * 2 = 0 from rfl] at hx304_1)
     (try rw [Addr.add_zero'] at hx304_1)
     replace p304 := eq_true p304
     replace q304 := eq_true q304
     go_wp2
     go_meet
     case rel => exact ⟨_, ((((rd_T32 t300 0).f0) != 2)), (by first | rfl | (simp; done) | (simp [*]; done)), H', ⟨by first | omega | exact Nat.le_refl _⟩, ⟨by repeat (first | (with_reducible first | exact HB.out | apply below_alloc | apply pw_below_drewN | apply below_drew1) | exact HB.out)⟩⟩
    ·rw [if_neg c13] at H
     exact absurd H (by simp)
   ·rw [if_neg c12] at H
    have c12b0 : ((t300.length : Int) == 1) = false := beq_eq_false_iff_ne.mpr c12
    have c12b1 : ((t300.length : Int) != 1) = true := bne_iff_ne.mpr c12
    have H' := Aside0.mk H
    clear H
    obtain ⟨Ao15, co15, eo15⟩ := Kd.R_slice HO303.out
    subst eo15
    go_wp2
    go_meet
    case rel => exact ⟨_, (true), (by first | rfl | (simp; done) | (simp [*]; done)), H', ⟨by first | omega | exact Nat.le_refl _⟩, ⟨by repeat (first | (with_reducible first | exact HB.out | apply below_alloc | apply pw_below_drewN | apply below_drew1) | exact HB.out)⟩⟩
  ·rw [if_neg c11] at H
   have c11b0 : (t301 == 0) = false := beq_eq_false_iff_ne.mpr c11
   have c11b1 : (t301 != 0) = true := bne_iff_ne.mpr c11
   (first | rw [c11b0] | (simp only [i64_w, i32_w]; rw [c11b0]) | skip)
   have H' := Aside0.mk H
   clear H
   go_wp2
   go_meet
   case rel => exact ⟨_, (true), (by first | rfl | (simp; done) | (simp [*]; done)), H', ⟨by first | omega | exact Nat.le_refl _⟩, ⟨by repeat (first | (with_reducible first | exact HB.out | apply below_alloc | apply pw_below_drewN | apply below_drew1) | exact HB.out)⟩⟩
 case rest =>
  clear HC5
  try clear c1
  try clear c2
  try clear p2
  try clear p3
  try clear q3
  try clear hx3
  try clear qi3
  try clear c5
  try clear c6
  try clear c9
  try clear c11
  try clear c11b0
  try clear c11b1
  try clear c12
  try clear c12b0
  try clear c12b1
  try clear c13
  try clear c13b0
  try clear c13b1
  try clear hx304_0
  try clear hx304_1
  try clear p304
  try clear q304
  obtain ⟨kq, x27_4, rfl, HA, HJ4, HB⟩ := hcut
  cases kq with
  | zero => exact absurd HA.out (by simp [barrowlaw01_SpanThere.j0])
  | succ kj4 =>
   have H := HA.out
   clear HA
   simp only [barrowlaw01_SpanThere.j0] at H
   by_cases c16 : x27_4 = true
   ·subst c16
    have H1 : (some false) = some r := by rw [if_pos rfl] at H; exact H
    clear H
    have H := H1
    clear H1
    obtain rfl := Option.some.inj H
    go_wp2
    go_ret
    exact ⟨by first | rfl | (simp [errW_none, errW_some] <;> rfl) | (simp [*, errW_none, errW_some] <;> rfl), by repeat (first | (with_reducible first | exact HB.out | apply below_alloc | apply pw_below_drewN | apply below_drew1) | exact HB.out)⟩
   ·replace c16 := Bool.eq_false_iff.mpr c16
    subst c16
    have H1 : ((span_Show.f kj4 l0).bind fun t305 => ((span_Read.f t305).bind fun bt306 => (if bt306.2 = 0 then ((span_Norm.f kj4 l0).bind fun t310 => ((barrowref01_Equal.f kj4 bt306.1 t310).bind fun t313 => (barrowlaw01_SpanThere.j1 kj4 a1 (!t313)))) else (barrowlaw01_SpanThere.j1 kj4 a1 true)))) = some r := by rw [if_neg (show ¬ (false = true) by decide)] at H; exact H
    clear H
    have H := H1
    clear H1
    replace H := Option.bind_eq_some_iff.mp H
    obtain ⟨t305, A170, H⟩ := H
    replace H : ((span_Read.f t305).bind fun bt306 => (if bt306.2 = 0 then ((span_Norm.f kj4 l0).bind fun t310 => ((barrowref01_Equal.f kj4 bt306.1 t310).bind fun t313 => (barrowlaw01_SpanThere.j1 kj4 a1 (!t313)))) else (barrowlaw01_SpanThere.j1 kj4 a1 true))) = some r := H
    have A17 := Aside0.mk A170
    clear A170
    replace H := Option.bind_eq_some_iff.mp H
    obtain ⟨⟨t306, t307⟩, A180, H⟩ := H
    replace H : (if t307 = 0 then ((span_Norm.f kj4 l0).bind fun t310 => ((barrowref01_Equal.f kj4 t306 t310).bind fun t313 => (barrowlaw01_SpanThere.j1 kj4 a1 (!t313)))) else (barrowlaw01_SpanThere.j1 kj4 a1 true)) = some r := H
    have A18 := Aside0.mk A180
    clear A180
    have HC19 := Aside0.mk H
    clear H
    go_upto_region 5 with (first | ((with_reducible refine gate_callee (f := 9) rfl ?_); refine goesL_ (some 30) rfl rfl Tryd.func9 (by kernel_rfl) rfl #[.slice A0 l0.length c0] rfl (by (try simp only [List.map_toArray, List.map_cons, List.map_nil]); first | done | rfl | (simp only [List.length_drop, List.length_take]; rfl)) ?_; (with_reducible refine (span_Show.calls kj4 _ _ l0 t305 _ ?tab1_ ?side1 ?side2 A17.out).mono ?_); (case tab1_ => exact tab_keep hTab (by repeat (first | (with_reducible first | exact HB.out | apply below_alloc | apply pw_below_drewN | apply below_drew1) | exact HB.out | fail))); (case side1 => repeat (first | exact (Kd.C_below HR0.out HB.out) | (with_reducible refine Kd.C_alloc ?_ _) | (with_reducible refine Kd.C_drewN ?_ _) | (with_reducible refine Kd.C_drew ?_))); (case side2 => exact HC0.out); rintro e w20 ⟨rfl, hb⟩; refine ⟨_, rfl, ?_⟩; have n0_ := Aside0.mk (below_step (by repeat (first | (with_reducible first | exact HB.out | apply below_alloc | apply pw_below_drewN | apply below_drew1) | exact HB.out)) hb); clear HB; have HB := n0_; clear n0_; (try clear hb); (try clear hb2); (try clear hk); (try clear hi)) | ((with_reducible refine gate_callee (f := 6) rfl ?_); refine goesL_ (some 31) rfl rfl Tryd.func6 (by kernel_rfl) rfl #[.string t305] rfl (by (try simp only [List.map_toArray, List.map_cons, List.map_nil]); first | done | rfl | (simp only [List.length_drop, List.length_take]; rfl)) ?_; (with_reducible refine (span_Read.calls t305 t306 t307 _ ?tab2_ A18.out).mono ?_); (case tab2_ => exact tabM_keep hTabM (by repeat (first | (with_reducible first | exact HB.out | apply below_alloc | apply pw_below_drewN | apply below_drew1) | exact HB.out | fail))); rintro e w21 ⟨v308, rfl, ho0, hb⟩; refine ⟨_, rfl, ?_⟩; have n0_ := Aside0.mk (Kd.R_lower ho0 (below_size (by repeat (first | (with_reducible first | exact HB.out | apply below_alloc | apply pw_below_drewN | apply below_drew1) | exact HB.out)))); have n1_ := Aside0.mk (below_step (by repeat (first | (with_reducible first | exact HB.out | apply below_alloc | apply pw_below_drewN | apply below_drew1) | exact HB.out)) hb); clear HB; have HO309 := n0_; have HB := n1_; clear n0_ n1_; (try clear hb); (try clear hb2); (try clear hk); (try clear hi); (try clear ho0)))
    (try simp only [Act.put, List.setIfInBounds_toArray, List.set_cons_zero, List.set_cons_succ])
    go_cut [42] (fun v42 wc => ∃ (kq : Nat) (x42_18 : Bool), v42 = .bool x42_18 ∧ Aside0 (barrowlaw01_SpanThere.j1 kq a1 x42_18 = some r) ∧ Aside0 (kq ≤ kj4) ∧ Aside0 (Below w.heap.size w wc))
    case first =>
     have H := HC19.out
     clear HC19
     by_cases c22 : t307 = 0
     ·rw [if_pos c22] at H
      have c22b0 : (t307 == 0) = true := beq_iff_eq.mpr c22
      have c22b1 : (t307 != 0) = false := bne_eq_false_iff_eq.mpr c22
      clear c22
      (first | rw [c22b0] | (simp only [i64_w, i32_w]; rw [c22b0]) | skip)
      replace H := Option.bind_eq_some_iff.mp H
      obtain ⟨t310, A230, H⟩ := H
      replace H : ((barrowref01_Equal.f kj4 t306 t310).bind fun t313 => (barrowlaw01_SpanThere.j1 kj4 a1 (!t313))) = some r := H
      have A23 := Aside0.mk A230
      clear A230
      replace H := Option.bind_eq_some_iff.mp H
      obtain ⟨t313, A240, H⟩ := H
      replace H : (barrowlaw01_SpanThere.j1 kj4 a1 (!t313)) = some r := H
      have A24 := Aside0.mk A240
      clear A240
      have H' := Aside0.mk H
      clear H
      go_wp2_with (first | (go_at_call 11; (with_reducible refine (span_Norm.calls kj4 (fun k_ => k_ < w.heap.size) _ _ l0 t310 _ ?side1 A23.out).mono ?_); (case side1 => exact Kd.V_mk HC0.out (Kd.F_below (Kd.C_F k32_heap HR0.out) (by repeat (first | (with_reducible first | exact HB.out | apply below_alloc | apply pw_below_drewN | apply below_drew1) | exact HB.out)))); rintro e w25 ⟨v311, rfl, ho0, hb⟩; have n0_ := Aside0.mk (Kd.R_elder' (by (with_reducible repeat (first | apply Kd.R_alloc | apply Kd.R_drewN | apply Kd.R_drew)); exact HO309.out) (Kd.R_base ho0) hb); have n1_ := Aside0.mk (Kd.R_lower (Kd.R_new' (Kd.R_mono (ok' := fun k_ => True) ho0 (fun _ hk_ => trivial)) (Kd.R_lt (by (with_reducible repeat (first | apply Kd.R_alloc | apply Kd.R_drewN | apply Kd.R_drew)); exact HO309.out))) (below_size (by repeat (first | (with_reducible first | exact HB.out | apply below_alloc | apply pw_below_drewN | apply below_drew1) | exact HB.out)))); have n2_ := Aside0.mk (below_step (by repeat (first | (with_reducible first | exact HB.out | apply below_alloc | apply pw_below_drewN | apply below_drew1) | exact HB.out)) hb); clear HO309; clear HB; have HO309 := n0_; have HO312 := n1_; have HB := n2_; clear n0_ n1_ n2_; (try clear hb); (try clear hb2); (try clear hk); (try clear hi); (try clear ho0); obtain ⟨Ao26, co26, eo26⟩ := Kd.R_slice HO309.out; subst eo26; obtain ⟨Ao27, co27, eo27⟩ := Kd.R_slice HO312.out; subst eo27) | (go_at_call 8; (with_reducible refine (barrowref01_Equal.calls kj4 _ _ t306 _ _ t310 t313 _ ?side1 ?side2 ?side3 ?side4 A24.out).mono ?_); (case side1 => repeat (first | exact (Kd.R_reads' HO309.out).2.2 | (with_reducible refine Kd.C_alloc ?_ _) | (with_reducible refine Kd.C_drewN ?_ _) | (with_reducible refine Kd.C_drew ?_))); (case side2 => exact (Kd.R_reads' HO309.out).2.1); (case side3 => repeat (first | exact (Kd.R_reads' HO312.out).2.2 | (with_reducible refine Kd.C_alloc ?_ _) | (with_reducible refine Kd.C_drewN ?_ _) | (with_reducible refine Kd.C_drew ?_))); (case side4 => exact (Kd.R_reads' HO312.out).2.1); rintro e w' ⟨rfl, ⟨nd, rfl⟩⟩))
      go_meet
      case rel => exact ⟨_, (!t313), (by first | rfl | (simp; done) | (simp [*]; done)), H', ⟨by have := HJ4.out; first | omega | exact Nat.le_refl _⟩, ⟨by repeat (first | (with_reducible first | exact HB.out | apply below_alloc | apply pw_below_drewN | apply below_drew1) | exact HB.out)⟩⟩
     ·rw [if_neg c22] at H
      have c22b0 : (t307 == 0) = false := beq_eq_false_iff_ne.mpr c22
      have c22b1 : (t307 != 0) = true := bne_iff_ne.mpr c22
      (first | rw [c22b0] | (simp only [i64_w, i32_w]; rw [c22b0]) | skip)
      have H' := Aside0.mk H
      clear H
      go_wp2
      go_meet
      case rel => exact ⟨_, (true), (by first | rfl | (simp; done) | (simp [*]; done)), H', ⟨by have := HJ4.out; first | omega | exact Nat.le_refl _⟩, ⟨by repeat (first | (with_reducible first | exact HB.out | apply below_alloc | apply pw_below_drewN | apply below_drew1) | exact HB.out)⟩⟩
    case rest =>
     clear HC19
     try clear c1
     try clear c2
     try clear p2
     try clear p3
     try clear q3
     try clear hx3
     try clear qi3
     try clear c5
     try clear c6
     try clear c9
     try clear c11
     try clear c11b0
     try clear c11b1
     try clear c12
     try clear c12b0
     try clear c12b1
     try clear c13
     try clear c13b0
     try clear c13b1
     try clear c16
     try clear c22
     try clear c22b0
     try clear c22b1
     try clear hx304_0
     try clear hx304_1
     try clear p2
     try clear p3
     try clear p304
     try clear q3
     try clear q304
     obtain ⟨kq, x42_18, rfl, HA, HJ18, HB⟩ := hcut
     cases kq with
     | zero => exact absurd HA.out (by simp [barrowlaw01_SpanThere.j1])
     | succ kj18 =>
      have H := HA.out
      clear HA
      simp only [barrowlaw01_SpanThere.j1] at H
      by_cases c28 : x42_18 = true
      ·subst c28
       have H1 : (some false) = some r := by rw [if_pos rfl] at H; exact H
       clear H
       have H := H1
       clear H1
       obtain rfl := Option.some.inj H
       go_wp2
       go_ret
       exact ⟨by first | rfl | (simp [errW_none, errW_some] <;> rfl) | (simp [*, errW_none, errW_some] <;> rfl), by repeat (first | (with_reducible first | exact HB.out | apply below_alloc | apply pw_below_drewN | apply below_drew1) | exact HB.out)⟩
      ·replace c28 := Bool.eq_false_iff.mpr c28
       subst c28
       have H1 : ((span_Read.f a1).bind fun bt314 => (if bt314.2 = 0 then ((span_Show.f kj18 bt314.1).bind fun t318 => (if t318.toList = a1.toList then ((span_IsNorm.f kj18 bt314.1).bind fun t319 => (some t319)) else (some false))) else (some ((bt314.1.length : Int) == 0)))) = some r := by rw [if_neg (show ¬ (false = true) by decide)] at H; exact H
       clear H
       have H := H1
       clear H1
       replace H := Option.bind_eq_some_iff.mp H
       obtain ⟨⟨t314, t315⟩, A290, H⟩ := H
       replace H : (if t315 = 0 then ((span_Show.f kj18 t314).bind fun t318 => (if t318.toList = a1.toList then ((span_IsNorm.f kj18 t314).bind fun t319 => (some t319)) else (some false))) else (some ((t314.length : Int) == 0))) = some r := H
       have A29 := Aside0.mk A290
       clear A290
       by_cases c30 : t315 = 0
       ·rw [if_pos c30] at H
        have c30b0 : (t315 == 0) = true := beq_iff_eq.mpr c30
        have c30b1 : (t315 != 0) = false := bne_eq_false_iff_eq.mpr c30
        clear c30
        replace H := Option.bind_eq_some_iff.mp H
        obtain ⟨t318, A310, H⟩ := H
        replace H : (if t318.toList = a1.toList then ((span_IsNorm.f kj18 t314).bind fun t319 => (some t319)) else (some false)) = some r := H
        have A31 := Aside0.mk A310
        clear A310
        by_cases c32 : t318.toList = a1.toList
        ·rw [if_pos c32] at H
         have c32b0 : (t318.toList == a1.toList) = true := beq_iff_eq.mpr c32
         have c32b1 : (t318.toList != a1.toList) = false := bne_eq_false_iff_eq.mpr c32
         clear c32
         replace H := Option.bind_eq_some_iff.mp H
         obtain ⟨t319, A330, H⟩ := H
         replace H : (some t319) = some r := H
         have A33 := Aside0.mk A330
         clear A330
         obtain rfl := Option.some.inj H
         go_wp2_with (first | ((with_reducible refine gate_callee (f := 6) rfl ?_); refine goesL_ (some 45) rfl rfl Tryd.func6 (by kernel_rfl) rfl #[.string a1] rfl (by (try simp only [List.map_toArray, List.map_cons, List.map_nil]); first | done | rfl | (simp only [List.length_drop, List.length_take]; rfl)) ?_; (with_reducible refine (span_Read.calls a1 t314 t315 _ ?tab1_ A29.out).mono ?_); (case tab1_ => exact tabM_keep hTabM (by repeat (first | (with_reducible first | exact HB.out | apply below_alloc | apply pw_below_drewN | apply below_drew1) | exact HB.out | fail))); rintro e w34 ⟨v316, rfl, ho0, hb⟩; refine ⟨_, rfl, ?_⟩; have n0_ := Aside0.mk (Kd.R_lower ho0 (below_size (by repeat (first | (with_reducible first | exact HB.out | apply below_alloc | apply pw_below_drewN | apply below_drew1) | exact HB.out)))); have n1_ := Aside0.mk (below_step (by repeat (first | (with_reducible first | exact HB.out | apply below_alloc | apply pw_below_drewN | apply below_drew1) | exact HB.out)) hb); clear HB; have HO317 := n0_; have HB := n1_; clear n0_ n1_; (try clear hb); (try clear hb2); (try clear hk); (try clear hi); (try clear ho0); obtain ⟨Ao35, co35, eo35⟩ := Kd.R_slice HO317.out; subst eo35) | ((with_reducible refine gate_callee (f := 9) rfl ?_); refine goesL_ (some 54) rfl rfl Tryd.func9 (by kernel_rfl) rfl #[.slice Ao35 t314.length co35] rfl (by (try simp only [List.map_toArray, List.map_cons, List.map_nil]); first | done | rfl | (simp only [List.length_drop, List.length_take]; rfl)) ?_; (with_reducible refine (span_Show.calls kj18 _ _ t314 t318 _ ?tab2_ ?side1 ?side2 A31.out).mono ?_); (case tab2_ => exact tab_keep hTab (by repeat (first | (with_reducible first | exact HB.out | apply below_alloc | apply pw_below_drewN | apply below_drew1) | exact HB.out | fail))); (case side1 => repeat (first | exact (Kd.R_reads' HO317.out).2.2 | (with_reducible refine Kd.C_alloc ?_ _) | (with_reducible refine Kd.C_drewN ?_ _) | (with_reducible refine Kd.C_drew ?_))); (case side2 => exact (Kd.R_reads' HO317.out).2.1); rintro e w36 ⟨rfl, hb⟩; refine ⟨_, rfl, ?_⟩; have n0_ := Aside0.mk (Kd.R_below (by (with_reducible repeat (first | apply Kd.R_alloc | apply Kd.R_drewN | apply Kd.R_drew)); exact HO317.out) hb); have n1_ := Aside0.mk (below_step (by repeat (first | (with_reducible first | exact HB.out | apply below_alloc | apply pw_below_drewN | apply below_drew1) | exact HB.out)) hb); clear HO317; clear HB; have HO317 := n0_; have HB := n1_; clear n0_ n1_; (try clear hb); (try clear hb2); (try clear hk); (try clear hi)) | (go_at_call 12; (with_reducible refine (span_IsNorm.calls kj18 _ _ t314 t319 _ ?side1 ?side2 A33.out).mono ?_); (case side1 => repeat (first | exact (Kd.R_reads' HO317.out).2.2 | (with_reducible refine Kd.C_alloc ?_ _) | (with_reducible refine Kd.C_drewN ?_ _) | (with_reducible refine Kd.C_drew ?_))); (case side2 => exact (Kd.R_reads' HO317.out).2.1); rintro e w37 ⟨rfl, hb⟩; have n0_ := Aside0.mk (Kd.R_below (by (with_reducible repeat (first | apply Kd.R_alloc | apply Kd.R_drewN | apply Kd.R_drew)); exact HO317.out) hb); have n1_ := Aside0.mk (below_step (by repeat (first | (with_reducible first | exact HB.out | apply below_alloc | apply pw_below_drewN | apply below_drew1) | exact HB.out)) hb); clear HO317; clear HB; have HO317 := n0_; have HB := n1_; clear n0_ n1_; (try clear hb); (try clear hb2); (try clear hk); (try clear hi)))
         go_ret
         exact ⟨by first | rfl | (simp [errW_none, errW_some] <;> rfl) | (simp [*, errW_none, errW_some] <;> rfl), by repeat (first | (with_reducible first | exact HB.out | apply below_alloc | apply pw_below_drewN | apply below_drew1) | exact HB.out)⟩
        ·rw [if_neg c32] at H
         have c32b0 : (t318.toList == a1.toList) = false := beq_eq_false_iff_ne.mpr c32
         have c32b1 : (t318.toList != a1.toList) = true := bne_iff_ne.mpr c32
         obtain rfl := Option.some.inj H
         go_wp2_with (first | ((with_reducible refine gate_callee (f := 6) rfl ?_); refine goesL_ (some 45) rfl rfl Tryd.func6 (by kernel_rfl) rfl #[.string a1] rfl (by (try simp only [List.map_toArray, List.map_cons, List.map_nil]); first | done | rfl | (simp only [List.length_drop, List.length_take]; rfl)) ?_; (with_reducible refine (span_Read.calls a1 t314 t315 _ ?tab1_ A29.out).mono ?_); (case tab1_ => exact tabM_keep hTabM (by repeat (first | (with_reducible first | exact HB.out | apply below_alloc | apply pw_below_drewN | apply below_drew1) | exact HB.out | fail))); rintro e w38 ⟨v316, rfl, ho0, hb⟩; refine ⟨_, rfl, ?_⟩; have n0_ := Aside0.mk (Kd.R_lower ho0 (below_size (by repeat (first | (with_reducible first | exact HB.out | apply below_alloc | apply pw_below_drewN | apply below_drew1) | exact HB.out)))); have n1_ := Aside0.mk (below_step (by repeat (first | (with_reducible first | exact HB.out | apply below_alloc | apply pw_below_drewN | apply below_drew1) | exact HB.out)) hb); clear HB; have HO317 := n0_; have HB := n1_; clear n0_ n1_; (try clear hb); (try clear hb2); (try clear hk); (try clear hi); (try clear ho0); obtain ⟨Ao39, co39, eo39⟩ := Kd.R_slice HO317.out; subst eo39) | ((with_reducible refine gate_callee (f := 9) rfl ?_); refine goesL_ (some 54) rfl rfl Tryd.func9 (by kernel_rfl) rfl #[.slice Ao39 t314.length co39] rfl (by (try simp only [List.map_toArray, List.map_cons, List.map_nil]); first | done | rfl | (simp only [List.length_drop, List.length_take]; rfl)) ?_; (with_reducible refine (span_Show.calls kj18 _ _ t314 t318 _ ?tab2_ ?side1 ?side2 A31.out).mono ?_); (case tab2_ => exact tab_keep hTab (by repeat (first | (with_reducible first | exact HB.out | apply below_alloc | apply pw_below_drewN | apply below_drew1) | exact HB.out | fail))); (case side1 => repeat (first | exact (Kd.R_reads' HO317.out).2.2 | (with_reducible refine Kd.C_alloc ?_ _) | (with_reducible refine Kd.C_drewN ?_ _) | (with_reducible refine Kd.C_drew ?_))); (case side2 => exact (Kd.R_reads' HO317.out).2.1); rintro e w40 ⟨rfl, hb⟩; refine ⟨_, rfl, ?_⟩; have n0_ := Aside0.mk (Kd.R_below (by (with_reducible repeat (first | apply Kd.R_alloc | apply Kd.R_drewN | apply Kd.R_drew)); exact HO317.out) hb); have n1_ := Aside0.mk (below_step (by repeat (first | (with_reducible first | exact HB.out | apply below_alloc | apply pw_below_drewN | apply below_drew1) | exact HB.out)) hb); clear HO317; clear HB; have HO317 := n0_; have HB := n1_; clear n0_ n1_; (try clear hb); (try clear hb2); (try clear hk); (try clear hi)))
         go_ret
         exact ⟨by first | rfl | (simp [errW_none, errW_some] <;> rfl) | (simp [*, errW_none, errW_some] <;> rfl), by repeat (first | (with_reducible first | exact HB.out | apply below_alloc | apply pw_below_drewN | apply below_drew1) | exact HB.out)⟩
       ·rw [if_neg c30] at H
        have c30b0 : (t315 == 0) = false := beq_eq_false_iff_ne.mpr c30
        have c30b1 : (t315 != 0) = true := bne_iff_ne.mpr c30
        obtain rfl := Option.some.inj H
        go_wp2_with (first | ((with_reducible refine gate_callee (f := 6) rfl ?_); refine goesL_ (some 45) rfl rfl Tryd.func6 (by kernel_rfl) rfl #[.string a1] rfl (by (try simp only [List.map_toArray, List.map_cons, List.map_nil]); first | done | rfl | (simp only [List.length_drop, List.length_take]; rfl)) ?_; (with_reducible refine (span_Read.calls a1 t314 t315 _ ?tab1_ A29.out).mono ?_); (case tab1_ => exact tabM_keep hTabM (by repeat (first | (with_reducible first | exact HB.out | apply below_alloc | apply pw_below_drewN | apply below_drew1) | exact HB.out | fail))); rintro e w41 ⟨v316, rfl, ho0, hb⟩; refine ⟨_, rfl, ?_⟩; have n0_ := Aside0.mk (Kd.R_lower ho0 (below_size (by repeat (first | (with_reducible first | exact HB.out | apply below_alloc | apply pw_below_drewN | apply below_drew1) | exact HB.out)))); have n1_ := Aside0.mk (below_step (by repeat (first | (with_reducible first | exact HB.out | apply below_alloc | apply pw_below_drewN | apply below_drew1) | exact HB.out)) hb); clear HB; have HO317 := n0_; have HB := n1_; clear n0_ n1_; (try clear hb); (try clear hb2); (try clear hk); (try clear hi); (try clear ho0); obtain ⟨Ao42, co42, eo42⟩ := Kd.R_slice HO317.out; subst eo42))
        go_ret
        exact ⟨by first | rfl | (simp [errW_none, errW_some] <;> rfl) | (simp [*, errW_none, errW_some] <;> rfl), by repeat (first | (with_reducible first | exact HB.out | apply below_alloc | apply pw_below_drewN | apply below_drew1) | exact HB.out)⟩

end Go.Proofs.YtlmdcpooogaolaaDoor.G
