-- PRINTED by print.py (a twelfth state) out of the translation. Not trusted: Lean checks it.
import Derived.Test.YteldhpneegccjaaGx0
import Derived.Test.YteldhpneegccjaaGx10
namespace Go.Proofs.Yteldhpneegccjaa.G
open Go.RowKit Go.Proofs.YteldhpneegccjaaW.PrintWords Go.Proofs.YteldhpneegccjaaW.PrintLast Go.Proofs.YteldhpneegccjaaW.PrintMore
attribute [local go_sem] max2_int min2_int max_two min_two max_three min_three max_four min_four   -- for this text's walks alone
set_option linter.unusedVariables false
set_option linter.unusedSimpArgs false

/-! ### barrowlaw01_awake: function 26 -/
def barrowlaw01_awake.f (k : Nat)  : Option (Bool) := (span_Norm.f k (([(⟨3, 5⟩ : S26), (⟨1, 2⟩ : S26)] : List (S26)))).bind fun t306 => (if (t306.length : Int) = 1 then (if 0 < (t306.length : Int) then (if ((rd_T26 t306 0).f0) = 1 then (some (((rd_T26 t306 0).f1) == 5)) else (some false)) else (none)) else (some false))
theorem barrowlaw01_awake.mono : ∀ k, LeO (barrowlaw01_awake.f k ) (barrowlaw01_awake.f (k + 1) ) := by
 intro  k
 unfold barrowlaw01_awake.f
 repeat' first
   | (with_reducible exact span_Norm.mono _ _)
   | (with_reducible exact LeO.refl _)
   | (with_reducible exact LeO.none _)
   | (with_reducible refine LeO.ite ?_ ?_)
   | (with_reducible refine LeO.bind ?_ (fun _ => ?_))
   | exact span_Norm.mono _ _
   | exact LeO.none _
   | refine LeO.ite ?_ ?_
   | refine LeO.bind ?_ (fun _ => ?_)
set_option maxHeartbeats 8000000 in
set_option maxRecDepth 100000 in
theorem barrowlaw01_awake.calls (k : Nat)  (r : Bool) (w : World) (h : barrowlaw01_awake.f k  = some r) :
  Calls Try.prog 26 #[] w fun e w' => e = .returned (.bool r) ∧ Below w.heap.size w w' := by
 have hu26 := Try.underlying26
 have HB := Aside0.mk (Below.refl w.heap.size w)
 have H : ((span_Norm.f k (([(⟨3, 5⟩ : S26), (⟨1, 2⟩ : S26)] : List (S26)))).bind fun t306 => (if (t306.length : Int) = 1 then (if 0 < (t306.length : Int) then (if ((rd_T26 t306 0).f0) = 1 then (some (((rd_T26 t306 0).f1) == 5)) else (some false)) else (none)) else (some false))) = some r := h
 clear h
 obtain ⟨y303, hy303⟩ : ∃ y_ : List (S26), y_ = (([(⟨3, 5⟩ : S26), (⟨1, 2⟩ : S26)] : List (S26))) := ⟨_, rfl⟩
 replace H : ((span_Norm.f k y303).bind fun t306 => (if (t306.length : Int) = 1 then (if 0 < (t306.length : Int) then (if ((rd_T26 t306 0).f0) = 1 then (some (((rd_T26 t306 0).f1) == 5)) else (some false)) else (none)) else (some false))) = some r := by first | (rw [hy303]; with_reducible exact H) | (have H2_ := (Option.bind_some _ _).symm.trans H; rw [hy303]; with_reducible exact H2_) | (have H2_ := (Option.bind_some _ _).symm.trans H; with_reducible exact H2_) | with_reducible exact H | (rw [hy303]; exact H) | exact H
 have Ny303 := Aside0.mk hy303
 clear hy303
 replace H := Option.bind_eq_some_iff.mp H
 obtain ⟨t306, A10, H⟩ := H
 replace H : (if (t306.length : Int) = 1 then (if 0 < (t306.length : Int) then (if ((rd_T26 t306 0).f0) = 1 then (some (((rd_T26 t306 0).f1) == 5)) else (some false)) else (none)) else (some false)) = some r := H
 have A1 := Aside0.mk A10
 clear A10
 by_cases c2 : (t306.length : Int) = 1
 ·rw [if_pos c2] at H
  have c2b0 : ((t306.length : Int) == 1) = true := beq_iff_eq.mpr c2
  have c2b1 : ((t306.length : Int) != 1) = false := bne_eq_false_iff_eq.mpr c2
  clear c2
  by_cases c3 : 0 < (t306.length : Int)
  ·rw [if_pos c3] at H
   have c3b0 : decide (0 < (t306.length : Int)) = true := decide_eq_true c3
   have c3b1 : decide (0 < t306.length) = true := decide_eq_true (by omega)
   clear c3
   by_cases c4 : ((rd_T26 t306 0).f0) = 1
   ·rw [if_pos c4] at H
    have c4b0 : (((rd_T26 t306 0).f0) == 1) = true := beq_iff_eq.mpr c4
    have c4b1 : (((rd_T26 t306 0).f0) != 1) = false := bne_eq_false_iff_eq.mpr c4
    clear c4
    obtain rfl := Option.some.inj H
    go_enter Try.func26, Try.ntmps26
    go_wp2_with (first | ((with_reducible refine gate_dst (N := 4) rfl ?_); refine Kd.R_lit k26 _ 26 ?hg (N := 4) ?hd (xs := ([(⟨3, 5⟩ : S26), (⟨1, 2⟩ : S26)] : List (S26))) (inner := [.int .i64 3, .int .i64 5, .int .i64 1, .int .i64 2]) (ok := fun _ => True) (okp := fun _ => True) ?hr ?hp (fun _ hk => hk) trivial (Below.refl _ _) (Nat.le_refl _) (by simp) ?_; (case hd => rfl); (case hg => rfl); (case hr => first | (go_simp; done) | (go_simp; rfl)); (case hp => exact (Reps.c2 (show Kd.M k26 _ _ _ (⟨3, 5⟩ : S26) [.int .i64 3, .int .i64 5] from (k26_mkM _ _ _ (⟨3, 5⟩ : S26) )) (Reps.c2 (show Kd.M k26 _ _ _ (⟨1, 2⟩ : S26) [.int .i64 1, .int .i64 2] from (k26_mkM _ _ _ (⟨1, 2⟩ : S26) )) (Reps.none _ _)))); intro v304 w5 ho6 hb hg_ hnew_; clear hg_ hnew_; (first | rw [← Ny303.out] at ho6 | (simp only [Int.reduceToNat] at ho6; rw [← Ny303.out] at ho6)); have n0_ := Aside0.mk (Kd.R_lower ho6 (below_size (by repeat (first | (with_reducible first | exact HB.out | apply below_alloc | apply pw_below_drewN | apply below_drew1) | exact HB.out)))); have n1_ := Aside0.mk (below_step (by repeat (first | (with_reducible first | exact HB.out | apply below_alloc | apply pw_below_drewN | apply below_drew1) | exact HB.out)) hb); clear HB; have HO305 := n0_; have HB := n1_; clear n0_ n1_; clear hb ho6; obtain ⟨Ao7, co7, eo7⟩ := Kd.R_slice HO305.out; subst eo7) | ((with_reducible refine gate_callee (f := 32) rfl ?_); refine goesL_ (some 5) rfl rfl Try.func32 (by kernel_rfl) rfl #[.slice Ao7 y303.length co7] rfl (by (try simp only [List.map_toArray, List.map_cons, List.map_nil]); first | done | rfl | (simp only [List.length_drop, List.length_take]; rfl)) ?_; (with_reducible refine (span_Norm.calls k (fun k_ => some k_ = (.slice Ao7 y303.length co7 : Value).ownBlock) _ _ y303 t306 _ ?side1 A1.out).mono ?_); (case side1 => exact Kd.R_V (Kd.R_tight rfl (HO305.out))); rintro e w8 ⟨v307, rfl, ho0, hb⟩; refine ⟨_, rfl, ?_⟩; have n0_ := Aside0.mk (Kd.R_elder' (by (with_reducible repeat (first | apply Kd.R_alloc | apply Kd.R_drewN | apply Kd.R_drew)); exact HO305.out) (Kd.R_base ho0) hb); have n1_ := Aside0.mk (Kd.R_lower (Kd.R_new' (Kd.R_mono (ok' := fun k_ => True) ho0 (fun _ hk_ => trivial)) (Kd.R_lt (by (with_reducible repeat (first | apply Kd.R_alloc | apply Kd.R_drewN | apply Kd.R_drew)); exact HO305.out))) (below_size (by repeat (first | (with_reducible first | exact HB.out | apply below_alloc | apply pw_below_drewN | apply below_drew1) | exact HB.out)))); have n2_ := Aside0.mk (below_step (by repeat (first | (with_reducible first | exact HB.out | apply below_alloc | apply pw_below_drewN | apply below_drew1) | exact HB.out)) hb); clear HO305; clear HB; have HO305 := n0_; have HO308 := n1_; have HB := n2_; clear n0_ n1_ n2_; (try clear hb); (try clear hb2); (try clear hk); (try clear hi); (try clear ho0); obtain ⟨Ao9, co9, eo9⟩ := Kd.R_slice HO308.out; subst eo9; have p309 : 0 ≤ (0 : Int) := (by omega); have q309 : 0 < (t306.length : Int) := of_decide_eq_true (by first | (with_reducible assumption) | assumption); obtain ⟨ad309, e309, hx309_0, hx309_1⟩ := at_T26 (Kd.R_reads' HO308.out).2.2 0 p309 q309; cases e309; have qi309 : (0 < t306.length) = True := eq_true (by omega); (try rw [show ((0 : Int)).toNat = 0 from rfl] at hx309_0); (try rw [show 0 * 2 = 0 from rfl] at hx309_0); (try rw [Addr.add_zero'] at hx309_0); (try rw [show ((0 : Int)).toNat = 0 from rfl] at hx309_1); (try rw [show 0 * 2 = 0 from rfl] at hx309_1); (try rw [Addr.add_zero'] at hx309_1); replace p309 := eq_true p309; replace q309 := eq_true q309; have p310 : 0 ≤ (0 : Int) := (by omega); have q310 : 0 < (t306.length : Int) := of_decide_eq_true (by first | (with_reducible assumption) | assumption); obtain ⟨ad310, e310, hx310_0, hx310_1⟩ := at_T26 (Kd.R_reads' HO308.out).2.2 0 p310 q310; obtain rfl : ad309 = ad310 := (by injection e310); have qi310 : (0 < t306.length) = True := eq_true (by omega); (try rw [show ((0 : Int)).toNat = 0 from rfl] at hx310_0); (try rw [show 0 * 2 = 0 from rfl] at hx310_0); (try rw [Addr.add_zero'] at hx310_0); (try rw [show ((0 : Int)).toNat = 0 from rfl] at hx310_1); (try rw [show 0 * 2 = 0 from rfl] at hx310_1); (try rw [Addr.add_zero'] at hx310_1); replace p310 := eq_true p310; replace q310 := eq_true q310))
    go_ret
    exact ⟨by first | rfl | (simp [errW_none, errW_some] <;> rfl) | (simp [*, errW_none, errW_some] <;> rfl), by repeat (first | (with_reducible first | exact HB.out | apply below_alloc | apply pw_below_drewN | apply below_drew1) | exact HB.out)⟩
   ·rw [if_neg c4] at H
    have c4b0 : (((rd_T26 t306 0).f0) == 1) = false := beq_eq_false_iff_ne.mpr c4
    have c4b1 : (((rd_T26 t306 0).f0) != 1) = true := bne_iff_ne.mpr c4
    obtain rfl := Option.some.inj H
    go_enter Try.func26, Try.ntmps26
    go_wp2_with (first | ((with_reducible refine gate_dst (N := 4) rfl ?_); refine Kd.R_lit k26 _ 26 ?hg (N := 4) ?hd (xs := ([(⟨3, 5⟩ : S26), (⟨1, 2⟩ : S26)] : List (S26))) (inner := [.int .i64 3, .int .i64 5, .int .i64 1, .int .i64 2]) (ok := fun _ => True) (okp := fun _ => True) ?hr ?hp (fun _ hk => hk) trivial (Below.refl _ _) (Nat.le_refl _) (by simp) ?_; (case hd => rfl); (case hg => rfl); (case hr => first | (go_simp; done) | (go_simp; rfl)); (case hp => exact (Reps.c2 (show Kd.M k26 _ _ _ (⟨3, 5⟩ : S26) [.int .i64 3, .int .i64 5] from (k26_mkM _ _ _ (⟨3, 5⟩ : S26) )) (Reps.c2 (show Kd.M k26 _ _ _ (⟨1, 2⟩ : S26) [.int .i64 1, .int .i64 2] from (k26_mkM _ _ _ (⟨1, 2⟩ : S26) )) (Reps.none _ _)))); intro v304 w10 ho11 hb hg_ hnew_; clear hg_ hnew_; (first | rw [← Ny303.out] at ho11 | (simp only [Int.reduceToNat] at ho11; rw [← Ny303.out] at ho11)); have n0_ := Aside0.mk (Kd.R_lower ho11 (below_size (by repeat (first | (with_reducible first | exact HB.out | apply below_alloc | apply pw_below_drewN | apply below_drew1) | exact HB.out)))); have n1_ := Aside0.mk (below_step (by repeat (first | (with_reducible first | exact HB.out | apply below_alloc | apply pw_below_drewN | apply below_drew1) | exact HB.out)) hb); clear HB; have HO305 := n0_; have HB := n1_; clear n0_ n1_; clear hb ho11; obtain ⟨Ao12, co12, eo12⟩ := Kd.R_slice HO305.out; subst eo12) | ((with_reducible refine gate_callee (f := 32) rfl ?_); refine goesL_ (some 5) rfl rfl Try.func32 (by kernel_rfl) rfl #[.slice Ao12 y303.length co12] rfl (by (try simp only [List.map_toArray, List.map_cons, List.map_nil]); first | done | rfl | (simp only [List.length_drop, List.length_take]; rfl)) ?_; (with_reducible refine (span_Norm.calls k (fun k_ => some k_ = (.slice Ao12 y303.length co12 : Value).ownBlock) _ _ y303 t306 _ ?side1 A1.out).mono ?_); (case side1 => exact Kd.R_V (Kd.R_tight rfl (HO305.out))); rintro e w13 ⟨v307, rfl, ho0, hb⟩; refine ⟨_, rfl, ?_⟩; have n0_ := Aside0.mk (Kd.R_elder' (by (with_reducible repeat (first | apply Kd.R_alloc | apply Kd.R_drewN | apply Kd.R_drew)); exact HO305.out) (Kd.R_base ho0) hb); have n1_ := Aside0.mk (Kd.R_lower (Kd.R_new' (Kd.R_mono (ok' := fun k_ => True) ho0 (fun _ hk_ => trivial)) (Kd.R_lt (by (with_reducible repeat (first | apply Kd.R_alloc | apply Kd.R_drewN | apply Kd.R_drew)); exact HO305.out))) (below_size (by repeat (first | (with_reducible first | exact HB.out | apply below_alloc | apply pw_below_drewN | apply below_drew1) | exact HB.out)))); have n2_ := Aside0.mk (below_step (by repeat (first | (with_reducible first | exact HB.out | apply below_alloc | apply pw_below_drewN | apply below_drew1) | exact HB.out)) hb); clear HO305; clear HB; have HO305 := n0_; have HO308 := n1_; have HB := n2_; clear n0_ n1_ n2_; (try clear hb); (try clear hb2); (try clear hk); (try clear hi); (try clear ho0); obtain ⟨Ao14, co14, eo14⟩ := Kd.R_slice HO308.out; subst eo14; have p309 : 0 ≤ (0 : Int) := (by omega); have q309 : 0 < (t306.length : Int) := of_decide_eq_true (by first | (with_reducible assumption) | assumption); obtain ⟨ad309, e309, hx309_0, hx309_1⟩ := at_T26 (Kd.R_reads' HO308.out).2.2 0 p309 q309; cases e309; have qi309 : (0 < t306.length) = True := eq_true (by omega); (try rw [show ((0 : Int)).toNat = 0 from rfl] at hx309_0); (try rw [show 0 * 2 = 0 from rfl] at hx309_0); (try rw [Addr.add_zero'] at hx309_0); (try rw [show ((0 : Int)).toNat = 0 from rfl] at hx309_1); (try rw [show 0 * 2 = 0 from rfl] at hx309_1); (try rw [Addr.add_zero'] at hx309_1); replace p309 := eq_true p309; replace q309 := eq_true q309))
    go_ret
    exact ⟨by first | rfl | (simp [errW_none, errW_some] <;> rfl) | (simp [*, errW_none, errW_some] <;> rfl), by repeat (first | (with_reducible first | exact HB.out | apply below_alloc | apply pw_below_drewN | apply below_drew1) | exact HB.out)⟩
  ·rw [if_neg c3] at H
   exact absurd H (by simp)
 ·rw [if_neg c2] at H
  have c2b0 : ((t306.length : Int) == 1) = false := beq_eq_false_iff_ne.mpr c2
  have c2b1 : ((t306.length : Int) != 1) = true := bne_iff_ne.mpr c2
  obtain rfl := Option.some.inj H
  go_enter Try.func26, Try.ntmps26
  go_wp2_with (first | ((with_reducible refine gate_dst (N := 4) rfl ?_); refine Kd.R_lit k26 _ 26 ?hg (N := 4) ?hd (xs := ([(⟨3, 5⟩ : S26), (⟨1, 2⟩ : S26)] : List (S26))) (inner := [.int .i64 3, .int .i64 5, .int .i64 1, .int .i64 2]) (ok := fun _ => True) (okp := fun _ => True) ?hr ?hp (fun _ hk => hk) trivial (Below.refl _ _) (Nat.le_refl _) (by simp) ?_; (case hd => rfl); (case hg => rfl); (case hr => first | (go_simp; done) | (go_simp; rfl)); (case hp => exact (Reps.c2 (show Kd.M k26 _ _ _ (⟨3, 5⟩ : S26) [.int .i64 3, .int .i64 5] from (k26_mkM _ _ _ (⟨3, 5⟩ : S26) )) (Reps.c2 (show Kd.M k26 _ _ _ (⟨1, 2⟩ : S26) [.int .i64 1, .int .i64 2] from (k26_mkM _ _ _ (⟨1, 2⟩ : S26) )) (Reps.none _ _)))); intro v304 w15 ho16 hb hg_ hnew_; clear hg_ hnew_; (first | rw [← Ny303.out] at ho16 | (simp only [Int.reduceToNat] at ho16; rw [← Ny303.out] at ho16)); have n0_ := Aside0.mk (Kd.R_lower ho16 (below_size (by repeat (first | (with_reducible first | exact HB.out | apply below_alloc | apply pw_below_drewN | apply below_drew1) | exact HB.out)))); have n1_ := Aside0.mk (below_step (by repeat (first | (with_reducible first | exact HB.out | apply below_alloc | apply pw_below_drewN | apply below_drew1) | exact HB.out)) hb); clear HB; have HO305 := n0_; have HB := n1_; clear n0_ n1_; clear hb ho16; obtain ⟨Ao17, co17, eo17⟩ := Kd.R_slice HO305.out; subst eo17) | ((with_reducible refine gate_callee (f := 32) rfl ?_); refine goesL_ (some 5) rfl rfl Try.func32 (by kernel_rfl) rfl #[.slice Ao17 y303.length co17] rfl (by (try simp only [List.map_toArray, List.map_cons, List.map_nil]); first | done | rfl | (simp only [List.length_drop, List.length_take]; rfl)) ?_; (with_reducible refine (span_Norm.calls k (fun k_ => some k_ = (.slice Ao17 y303.length co17 : Value).ownBlock) _ _ y303 t306 _ ?side1 A1.out).mono ?_); (case side1 => exact Kd.R_V (Kd.R_tight rfl (HO305.out))); rintro e w18 ⟨v307, rfl, ho0, hb⟩; refine ⟨_, rfl, ?_⟩; have n0_ := Aside0.mk (Kd.R_elder' (by (with_reducible repeat (first | apply Kd.R_alloc | apply Kd.R_drewN | apply Kd.R_drew)); exact HO305.out) (Kd.R_base ho0) hb); have n1_ := Aside0.mk (Kd.R_lower (Kd.R_new' (Kd.R_mono (ok' := fun k_ => True) ho0 (fun _ hk_ => trivial)) (Kd.R_lt (by (with_reducible repeat (first | apply Kd.R_alloc | apply Kd.R_drewN | apply Kd.R_drew)); exact HO305.out))) (below_size (by repeat (first | (with_reducible first | exact HB.out | apply below_alloc | apply pw_below_drewN | apply below_drew1) | exact HB.out)))); have n2_ := Aside0.mk (below_step (by repeat (first | (with_reducible first | exact HB.out | apply below_alloc | apply pw_below_drewN | apply below_drew1) | exact HB.out)) hb); clear HO305; clear HB; have HO305 := n0_; have HO308 := n1_; have HB := n2_; clear n0_ n1_ n2_; (try clear hb); (try clear hb2); (try clear hk); (try clear hi); (try clear ho0); obtain ⟨Ao19, co19, eo19⟩ := Kd.R_slice HO308.out; subst eo19))
  go_ret
  exact ⟨by first | rfl | (simp [errW_none, errW_some] <;> rfl) | (simp [*, errW_none, errW_some] <;> rfl), by repeat (first | (with_reducible first | exact HB.out | apply below_alloc | apply pw_below_drewN | apply below_drew1) | exact HB.out)⟩

end Go.Proofs.Yteldhpneegccjaa.G
