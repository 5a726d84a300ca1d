-- PRINTED by print.py (a twelfth state) out of the translation. Not trusted: Lean checks it.
import Derived.Test.YteldhpneegccjaaGx0
import Derived.Test.YteldhpneegccjaaGx8
import Derived.Test.YteldhpneegccjaaGx10
import Derived.Test.YteldhpneegccjaaGx13
import Derived.Test.YteldhpneegccjaaGx14
import Derived.Test.YteldhpneegccjaaGx20
import Derived.Test.YteldhpneegccjaaGx21
import Derived.Test.YteldhpneegccjaaGx22
import Derived.Test.YteldhpneegccjaaGx23
import Derived.Test.YteldhpneegccjaaGx24
import Derived.Test.YteldhpneegccjaaGx25
namespace Go.Proofs.Yteldhpneegccjaa.G
open Go.RowKit Go.Proofs.YteldhpneegccjaaW.PrintWords Go.Proofs.YteldhpneegccjaaW.PrintLast Go.Proofs.YteldhpneegccjaaW.PrintMore
attribute [local go_sem] max2_int min2_int max_two min_two max_three min_three max_four min_four   -- for this text's walks alone
set_option linter.unusedVariables false
set_option linter.unusedSimpArgs false

/-! ### barrowlaw01_SpanForms: function 6 -/
mutual
def barrowlaw01_SpanForms.j0 : Nat → List (S26) → Bool → Option (Bool)
 | 0, _, _ => none
 | k + 1, x0, x22 => if x22 = true then (some false) else ((barrowref01_Norm.f k x0).bind fun t342 => ((barrowref01_IsNorm.f k x0).bind fun t345 => ((barrowref01_Size.f k x0).bind fun t346 => ((barrowref01_Last.f k x0).bind fun t347 => ((span_Norm.f k x0).bind fun t348 => ((barrowref01_Equal.f k t348 t342).bind fun t351 => (if t351 = true then ((span_IsNorm.f k t348).bind fun t352 => (if t352 = true then ((span_IsNorm.f k x0).bind fun t353 => (barrowlaw01_SpanForms.j1 k x0 t346 t347 (t353 != t345))) else (barrowlaw01_SpanForms.j1 k x0 t346 t347 true))) else (barrowlaw01_SpanForms.j1 k x0 t346 t347 true))))))))
def barrowlaw01_SpanForms.j1 : Nat → List (S26) → Int → Int → Bool → Option (Bool)
 | 0, _, _, _, _ => none
 | k + 1, x0, x5, x6, x47 => if x47 = true then (some false) else ((span_Size.f k x0).bind fun t354 => (if t354 = x5 then ((span_Last.f k x0).bind fun t355 => (some (t355 == x6))) else (some false)))
end
def barrowlaw01_SpanForms.f (k : Nat) (l0 : List (S26)) : Option (Bool) := (barrowlaw01_awake.f k).bind fun t333 => (if t333 = true then ((span_IsNorm.f k (([(⟨1, 2⟩ : S26), (⟨4, 4⟩ : S26)] : List (S26)))).bind fun t337 => (if t337 = true then ((span_IsNorm.f k (([(⟨1, 2⟩ : S26), (⟨3, 4⟩ : S26)] : List (S26)))).bind fun t341 => (barrowlaw01_SpanForms.j0 k l0 t341)) else (barrowlaw01_SpanForms.j0 k l0 true))) else (barrowlaw01_SpanForms.j0 k l0 true))
theorem barrowlaw01_SpanForms.mono_l : ∀ k, (∀ y0 y1, LeO (barrowlaw01_SpanForms.j0 k y0 y1) (barrowlaw01_SpanForms.j0 (k + 1) y0 y1)) ∧ (∀ y0 y1 y2 y3, LeO (barrowlaw01_SpanForms.j1 k y0 y1 y2 y3) (barrowlaw01_SpanForms.j1 (k + 1) y0 y1 y2 y3))
 | 0 => ⟨fun _ _ r h => by simp [barrowlaw01_SpanForms.j0] at h, fun _ _ _ _ r h => by simp [barrowlaw01_SpanForms.j1] at h⟩
 | k + 1 => by
  obtain ⟨ih0, ih1⟩ := barrowlaw01_SpanForms.mono_l k
  refine ⟨?_, ?_⟩
  ·intro y0 y1
   unfold barrowlaw01_SpanForms.j0
   repeat' first
   | (with_reducible exact ih0 _ _)
   | (with_reducible exact ih1 _ _ _ _)
   | (with_reducible exact barrowlaw01_awake.mono _)
   | (with_reducible exact barrowref01_Equal.mono _ _ _)
   | (with_reducible exact barrowref01_IsNorm.mono _ _)
   | (with_reducible exact barrowref01_Last.mono _ _)
   | (with_reducible exact barrowref01_Norm.mono _ _)
   | (with_reducible exact barrowref01_Size.mono _ _)
   | (with_reducible exact span_IsNorm.mono _ _)
   | (with_reducible exact span_Last.mono _ _)
   | (with_reducible exact span_Norm.mono _ _)
   | (with_reducible exact span_Size.mono _ _)
   | (with_reducible exact LeO.refl _)
   | (with_reducible exact LeO.none _)
   | (with_reducible refine LeO.ite ?_ ?_)
   | (with_reducible refine LeO.bind ?_ (fun _ => ?_))
   | exact ih0 _ _
   | exact ih1 _ _ _ _
   | exact barrowlaw01_awake.mono _
   | exact barrowref01_Equal.mono _ _ _
   | exact barrowref01_IsNorm.mono _ _
   | exact barrowref01_Last.mono _ _
   | exact barrowref01_Norm.mono _ _
   | exact barrowref01_Size.mono _ _
   | exact span_IsNorm.mono _ _
   | exact span_Last.mono _ _
   | exact span_Norm.mono _ _
   | exact span_Size.mono _ _
   | exact LeO.none _
   | refine LeO.ite ?_ ?_
   | refine LeO.bind ?_ (fun _ => ?_)
  ·intro y0 y1 y2 y3
   unfold barrowlaw01_SpanForms.j1
   repeat' first
   | (with_reducible exact ih0 _ _)
   | (with_reducible exact ih1 _ _ _ _)
   | (with_reducible exact barrowlaw01_awake.mono _)
   | (with_reducible exact barrowref01_Equal.mono _ _ _)
   | (with_reducible exact barrowref01_IsNorm.mono _ _)
   | (with_reducible exact barrowref01_Last.mono _ _)
   | (with_reducible exact barrowref01_Norm.mono _ _)
   | (with_reducible exact barrowref01_Size.mono _ _)
   | (with_reducible exact span_IsNorm.mono _ _)
   | (with_reducible exact span_Last.mono _ _)
   | (with_reducible exact span_Norm.mono _ _)
   | (with_reducible exact span_Size.mono _ _)
   | (with_reducible exact LeO.refl _)
   | (with_reducible exact LeO.none _)
   | (with_reducible refine LeO.ite ?_ ?_)
   | (with_reducible refine LeO.bind ?_ (fun _ => ?_))
   | exact ih0 _ _
   | exact ih1 _ _ _ _
   | exact barrowlaw01_awake.mono _
   | exact barrowref01_Equal.mono _ _ _
   | exact barrowref01_IsNorm.mono _ _
   | exact barrowref01_Last.mono _ _
   | exact barrowref01_Norm.mono _ _
   | exact barrowref01_Size.mono _ _
   | exact span_IsNorm.mono _ _
   | exact span_Last.mono _ _
   | exact span_Norm.mono _ _
   | exact span_Size.mono _ _
   | exact LeO.none _
   | refine LeO.ite ?_ ?_
   | refine LeO.bind ?_ (fun _ => ?_)
theorem barrowlaw01_SpanForms.mono : ∀ a0 k, LeO (barrowlaw01_SpanForms.f k a0) (barrowlaw01_SpanForms.f (k + 1) a0) := by
 intro a0 k
 obtain ⟨ih0, ih1⟩ := barrowlaw01_SpanForms.mono_l k
 unfold barrowlaw01_SpanForms.f
 repeat' first
   | (with_reducible exact ih0 _ _)
   | (with_reducible exact ih1 _ _ _ _)
   | (with_reducible exact barrowlaw01_awake.mono _)
   | (with_reducible exact barrowref01_Equal.mono _ _ _)
   | (with_reducible exact barrowref01_IsNorm.mono _ _)
   | (with_reducible exact barrowref01_Last.mono _ _)
   | (with_reducible exact barrowref01_Norm.mono _ _)
   | (with_reducible exact barrowref01_Size.mono _ _)
   | (with_reducible exact span_IsNorm.mono _ _)
   | (with_reducible exact span_Last.mono _ _)
   | (with_reducible exact span_Norm.mono _ _)
   | (with_reducible exact span_Size.mono _ _)
   | (with_reducible exact LeO.refl _)
   | (with_reducible exact LeO.none _)
   | (with_reducible refine LeO.ite ?_ ?_)
   | (with_reducible refine LeO.bind ?_ (fun _ => ?_))
   | exact ih0 _ _
   | exact ih1 _ _ _ _
   | exact barrowlaw01_awake.mono _
   | exact barrowref01_Equal.mono _ _ _
   | exact barrowref01_IsNorm.mono _ _
   | exact barrowref01_Last.mono _ _
   | exact barrowref01_Norm.mono _ _
   | exact barrowref01_Size.mono _ _
   | exact span_IsNorm.mono _ _
   | exact span_Last.mono _ _
   | exact span_Norm.mono _ _
   | exact span_Size.mono _ _
   | exact LeO.none _
   | refine LeO.ite ?_ ?_
   | refine LeO.bind ?_ (fun _ => ?_)
set_option maxHeartbeats 8000000 in
set_option maxRecDepth 100000 in
theorem barrowlaw01_SpanForms.calls (k : Nat) (A0 : Option Addr) (c0 : Nat) (l0 : List (S26)) (r : Bool) (w : World) (hr0 : Kd.C k26 w A0 l0.length l0) (hc0 : l0.length ≤ c0) (h : barrowlaw01_SpanForms.f k l0 = some r) :
  Calls Try.prog 6 #[.slice A0 l0.length c0] w fun e w' => e = .returned (.bool r) ∧ Below w.heap.size w w' := by
 have hu26 := Try.underlying26
 have HR0 := Aside0.mk hr0
 have HC0 := Aside0.mk hc0
 clear hr0 hc0
 have HB := Aside0.mk (Below.refl w.heap.size w)
 have H : ((barrowlaw01_awake.f k).bind fun t333 => (if t333 = true then ((span_IsNorm.f k (([(⟨1, 2⟩ : S26), (⟨4, 4⟩ : S26)] : List (S26)))).bind fun t337 => (if t337 = true then ((span_IsNorm.f k (([(⟨1, 2⟩ : S26), (⟨3, 4⟩ : S26)] : List (S26)))).bind fun t341 => (barrowlaw01_SpanForms.j0 k l0 t341)) else (barrowlaw01_SpanForms.j0 k l0 true))) else (barrowlaw01_SpanForms.j0 k l0 true))) = some r := h
 clear h
 have HC2 := Aside0.mk H
 clear H
 go_enter Try.func6, Try.ntmps6
 go_upto_region 1 with (fail)
 go_cut [22] (fun v22 wc => ∃ (kq : Nat) (x22_1 : Bool), v22 = .bool x22_1 ∧ Aside0 (barrowlaw01_SpanForms.j0 kq l0 x22_1 = some r) ∧ Aside0 (kq ≤ k) ∧ Aside0 (Below w.heap.size w wc))
 case first =>
  have H := HC2.out
  clear HC2
  replace H := Option.bind_eq_some_iff.mp H
  obtain ⟨t333, A30, H⟩ := H
  replace H : (if t333 = true then ((span_IsNorm.f k (([(⟨1, 2⟩ : S26), (⟨4, 4⟩ : S26)] : List (S26)))).bind fun t337 => (if t337 = true then ((span_IsNorm.f k (([(⟨1, 2⟩ : S26), (⟨3, 4⟩ : S26)] : List (S26)))).bind fun t341 => (barrowlaw01_SpanForms.j0 k l0 t341)) else (barrowlaw01_SpanForms.j0 k l0 true))) else (barrowlaw01_SpanForms.j0 k l0 true)) = some r := H
  have A3 := Aside0.mk A30
  clear A30
  by_cases c4 : t333 = true
  ·subst c4
   have H1 : ((span_IsNorm.f k (([(⟨1, 2⟩ : S26), (⟨4, 4⟩ : S26)] : List (S26)))).bind fun t337 => (if t337 = true then ((span_IsNorm.f k (([(⟨1, 2⟩ : S26), (⟨3, 4⟩ : S26)] : List (S26)))).bind fun t341 => (barrowlaw01_SpanForms.j0 k l0 t341)) else (barrowlaw01_SpanForms.j0 k l0 true))) = some r := by rw [if_pos rfl] at H; exact H
   clear H
   have H := H1
   clear H1
   obtain ⟨y334, hy334⟩ : ∃ y_ : List (S26), y_ = (([(⟨1, 2⟩ : S26), (⟨4, 4⟩ : S26)] : List (S26))) := ⟨_, rfl⟩
   replace H : ((span_IsNorm.f k y334).bind fun t337 => (if t337 = true then ((span_IsNorm.f k (([(⟨1, 2⟩ : S26), (⟨3, 4⟩ : S26)] : List (S26)))).bind fun t341 => (barrowlaw01_SpanForms.j0 k l0 t341)) else (barrowlaw01_SpanForms.j0 k l0 true))) = some r := by first | (rw [hy334]; with_reducible exact H) | (have H2_ := (Option.bind_some _ _).symm.trans H; rw [hy334]; with_reducible exact H2_) | (have H2_ := (Option.bind_some _ _).symm.trans H; with_reducible exact H2_) | with_reducible exact H | (rw [hy334]; exact H) | exact H
   have Ny334 := Aside0.mk hy334
   clear hy334
   replace H := Option.bind_eq_some_iff.mp H
   obtain ⟨t337, A50, H⟩ := H
   replace H : (if t337 = true then ((span_IsNorm.f k (([(⟨1, 2⟩ : S26), (⟨3, 4⟩ : S26)] : List (S26)))).bind fun t341 => (barrowlaw01_SpanForms.j0 k l0 t341)) else (barrowlaw01_SpanForms.j0 k l0 true)) = some r := H
   have A5 := Aside0.mk A50
   clear A50
   by_cases c6 : t337 = true
   ·subst c6
    have H1 : ((span_IsNorm.f k (([(⟨1, 2⟩ : S26), (⟨3, 4⟩ : S26)] : List (S26)))).bind fun t341 => (barrowlaw01_SpanForms.j0 k l0 t341)) = some r := by rw [if_pos rfl] at H; exact H
    clear H
    have H := H1
    clear H1
    obtain ⟨y338, hy338⟩ : ∃ y_ : List (S26), y_ = (([(⟨1, 2⟩ : S26), (⟨3, 4⟩ : S26)] : List (S26))) := ⟨_, rfl⟩
    replace H : ((span_IsNorm.f k y338).bind fun t341 => (barrowlaw01_SpanForms.j0 k l0 t341)) = some r := by first | (rw [hy338]; with_reducible exact H) | (have H2_ := (Option.bind_some _ _).symm.trans H; rw [hy338]; with_reducible exact H2_) | (have H2_ := (Option.bind_some _ _).symm.trans H; with_reducible exact H2_) | with_reducible exact H | (rw [hy338]; exact H) | exact H
    have Ny338 := Aside0.mk hy338
    clear hy338
    replace H := Option.bind_eq_some_iff.mp H
    obtain ⟨t341, A70, H⟩ := H
    replace H : (barrowlaw01_SpanForms.j0 k l0 t341) = some r := H
    have A7 := Aside0.mk A70
    clear A70
    have H' := Aside0.mk H
    clear H
    go_wp2_with (first | ((with_reducible refine gate_callee (f := 26) rfl ?_); refine goesL_ (some 8) rfl rfl Try.func26 (by kernel_rfl) rfl #[] rfl (by (try simp only [List.map_toArray, List.map_cons, List.map_nil]); first | done | rfl | (simp only [List.length_drop, List.length_take]; rfl)) ?_; (with_reducible refine (barrowlaw01_awake.calls k  true _ A3.out).mono ?_); rintro e w8 ⟨rfl, hb⟩; refine ⟨_, rfl, ?_⟩; have n0_ := Aside0.mk (below_step (by repeat (first | (with_reducible first | exact HB.out | apply below_alloc | apply pw_below_drewN | apply below_drew1) | exact HB.out)) hb); clear HB; have HB := n0_; clear n0_; (try clear hb); (try clear hb2); (try clear hk); (try clear hi)) | ((with_reducible refine gate_dst (N := 13) rfl ?_); (try (refine gate_guard (by rfl) ?_; dsimp only)); refine Kd.R_lit k26 _ 26 ?hg (N := 13) ?hd (xs := ([(⟨1, 2⟩ : S26), (⟨4, 4⟩ : S26)] : List (S26))) (inner := [.int .i64 1, .int .i64 2, .int .i64 4, .int .i64 4]) (ok := fun _ => True) (okp := fun _ => True) ?hr ?hp (fun _ hk => hk) trivial (Below.refl _ _) (Nat.le_refl _) (by simp) ?_; (case hd => rfl); (case hg => rfl); (case hr => first | (go_simp; done) | (go_simp; rfl)); (case hp => exact (Reps.c2 (show Kd.M k26 _ _ _ (⟨1, 2⟩ : S26) [.int .i64 1, .int .i64 2] from (k26_mkM _ _ _ (⟨1, 2⟩ : S26) )) (Reps.c2 (show Kd.M k26 _ _ _ (⟨4, 4⟩ : S26) [.int .i64 4, .int .i64 4] from (k26_mkM _ _ _ (⟨4, 4⟩ : S26) )) (Reps.none _ _)))); intro v335 w9 ho10 hb hg_ hnew_; clear hg_ hnew_; (first | rw [← Ny334.out] at ho10 | (simp only [Int.reduceToNat] at ho10; rw [← Ny334.out] at ho10)); have n0_ := Aside0.mk (Kd.R_lower ho10 (below_size (by repeat (first | (with_reducible first | exact HB.out | apply below_alloc | apply pw_below_drewN | apply below_drew1) | exact HB.out)))); have n1_ := Aside0.mk (below_step (by repeat (first | (with_reducible first | exact HB.out | apply below_alloc | apply pw_below_drewN | apply below_drew1) | exact HB.out)) hb); clear HB; have HO336 := n0_; have HB := n1_; clear n0_ n1_; clear hb ho10; obtain ⟨Ao11, co11, eo11⟩ := Kd.R_slice HO336.out; subst eo11) | (go_at_call 27; (with_reducible refine (span_IsNorm.calls k _ _ y334 true _ ?side1 ?side2 A5.out).mono ?_); (case side1 => repeat (first | exact (Kd.R_reads' HO336.out).2.2 | (with_reducible refine Kd.C_alloc ?_ _) | (with_reducible refine Kd.C_drewN ?_ _) | (with_reducible refine Kd.C_drew ?_))); (case side2 => exact (Kd.R_reads' HO336.out).2.1); rintro e w12 ⟨rfl, hb⟩; have n0_ := Aside0.mk (Kd.R_below (by (with_reducible repeat (first | apply Kd.R_alloc | apply Kd.R_drewN | apply Kd.R_drew)); exact HO336.out) hb); have n1_ := Aside0.mk (below_step (by repeat (first | (with_reducible first | exact HB.out | apply below_alloc | apply pw_below_drewN | apply below_drew1) | exact HB.out)) hb); clear HO336; clear HB; have HO336 := n0_; have HB := n1_; clear n0_ n1_; (try clear hb); (try clear hb2); (try clear hk); (try clear hi)) | ((with_reducible refine gate_dst (N := 20) rfl ?_); (try (refine gate_guard (by rfl) ?_; dsimp only)); refine Kd.R_lit k26 _ 26 ?hg (N := 20) ?hd (xs := ([(⟨1, 2⟩ : S26), (⟨3, 4⟩ : S26)] : List (S26))) (inner := [.int .i64 1, .int .i64 2, .int .i64 3, .int .i64 4]) (ok := fun _ => True) (okp := fun _ => True) ?hr ?hp (fun _ hk => hk) trivial (Below.refl _ _) (Nat.le_refl _) (by simp) ?_; (case hd => rfl); (case hg => rfl); (case hr => first | (go_simp; done) | (go_simp; rfl)); (case hp => exact (Reps.c2 (show Kd.M k26 _ _ _ (⟨1, 2⟩ : S26) [.int .i64 1, .int .i64 2] from (k26_mkM _ _ _ (⟨1, 2⟩ : S26) )) (Reps.c2 (show Kd.M k26 _ _ _ (⟨3, 4⟩ : S26) [.int .i64 3, .int .i64 4] from (k26_mkM _ _ _ (⟨3, 4⟩ : S26) )) (Reps.none _ _)))); intro v339 w13 ho14 hb hg_ hnew_; clear hg_ hnew_; (first | rw [← Ny338.out] at ho14 | (simp only [Int.reduceToNat] at ho14; rw [← Ny338.out] at ho14)); have n0_ := Aside0.mk (Kd.R_elder' (by (with_reducible repeat (first | apply Kd.R_alloc | apply Kd.R_drewN | apply Kd.R_drew)); exact HO336.out) (Kd.R_base ho14) hb); have n1_ := Aside0.mk (Kd.R_lower (Kd.R_new' ho14 (Kd.R_lt (by (with_reducible repeat (first | apply Kd.R_alloc | apply Kd.R_drewN | apply Kd.R_drew)); exact HO336.out))) (below_size (by repeat (first | (with_reducible first | exact HB.out | apply below_alloc | apply pw_below_drewN | apply below_drew1) | exact HB.out)))); have n2_ := Aside0.mk (below_step (by repeat (first | (with_reducible first | exact HB.out | apply below_alloc | apply pw_below_drewN | apply below_drew1) | exact HB.out)) hb); clear HO336; clear HB; have HO336 := n0_; have HO340 := n1_; have HB := n2_; clear n0_ n1_ n2_; clear hb ho14; obtain ⟨Ao15, co15, eo15⟩ := Kd.R_slice HO340.out; subst eo15) | (go_at_call 27; (with_reducible refine (span_IsNorm.calls k _ _ y338 t341 _ ?side1 ?side2 A7.out).mono ?_); (case side1 => repeat (first | exact (Kd.R_reads' HO340.out).2.2 | (with_reducible refine Kd.C_alloc ?_ _) | (with_reducible refine Kd.C_drewN ?_ _) | (with_reducible refine Kd.C_drew ?_))); (case side2 => exact (Kd.R_reads' HO340.out).2.1); rintro e w16 ⟨rfl, hb⟩; have n0_ := Aside0.mk (Kd.R_below (by (with_reducible repeat (first | apply Kd.R_alloc | apply Kd.R_drewN | apply Kd.R_drew)); exact HO336.out) hb); have n1_ := Aside0.mk (Kd.R_below (by (with_reducible repeat (first | apply Kd.R_alloc | apply Kd.R_drewN | apply Kd.R_drew)); exact HO340.out) hb); have n2_ := Aside0.mk (below_step (by repeat (first | (with_reducible first | exact HB.out | apply below_alloc | apply pw_below_drewN | apply below_drew1) | exact HB.out)) hb); clear HO336; clear HO340; clear HB; have HO336 := n0_; have HO340 := n1_; have HB := n2_; clear n0_ n1_ n2_; (try clear hb); (try clear hb2); (try clear hk); (try clear hi)))
    go_meet
    case rel => exact ⟨_, (t341), (by first | rfl | (simp; done) | (simp [*]; done)), H', ⟨by first | omega | exact Nat.le_refl _⟩, ⟨by repeat (first | (with_reducible first | exact HB.out | apply below_alloc | apply pw_below_drewN | apply below_drew1) | exact HB.out)⟩⟩
   ·replace c6 := Bool.eq_false_iff.mpr c6
    subst c6
    have H1 : (barrowlaw01_SpanForms.j0 k l0 true) = some r := by rw [if_neg (show ¬ (false = true) by decide)] at H; exact H
    clear H
    have H := H1
    clear H1
    have H' := Aside0.mk H
    clear H
    go_wp2_with (first | ((with_reducible refine gate_callee (f := 26) rfl ?_); refine goesL_ (some 8) rfl rfl Try.func26 (by kernel_rfl) rfl #[] rfl (by (try simp only [List.map_toArray, List.map_cons, List.map_nil]); first | done | rfl | (simp only [List.length_drop, List.length_take]; rfl)) ?_; (with_reducible refine (barrowlaw01_awake.calls k  true _ A3.out).mono ?_); rintro e w17 ⟨rfl, hb⟩; refine ⟨_, rfl, ?_⟩; have n0_ := Aside0.mk (below_step (by repeat (first | (with_reducible first | exact HB.out | apply below_alloc | apply pw_below_drewN | apply below_drew1) | exact HB.out)) hb); clear HB; have HB := n0_; clear n0_; (try clear hb); (try clear hb2); (try clear hk); (try clear hi)) | ((with_reducible refine gate_dst (N := 13) rfl ?_); (try (refine gate_guard (by rfl) ?_; dsimp only)); refine Kd.R_lit k26 _ 26 ?hg (N := 13) ?hd (xs := ([(⟨1, 2⟩ : S26), (⟨4, 4⟩ : S26)] : List (S26))) (inner := [.int .i64 1, .int .i64 2, .int .i64 4, .int .i64 4]) (ok := fun _ => True) (okp := fun _ => True) ?hr ?hp (fun _ hk => hk) trivial (Below.refl _ _) (Nat.le_refl _) (by simp) ?_; (case hd => rfl); (case hg => rfl); (case hr => first | (go_simp; done) | (go_simp; rfl)); (case hp => exact (Reps.c2 (show Kd.M k26 _ _ _ (⟨1, 2⟩ : S26) [.int .i64 1, .int .i64 2] from (k26_mkM _ _ _ (⟨1, 2⟩ : S26) )) (Reps.c2 (show Kd.M k26 _ _ _ (⟨4, 4⟩ : S26) [.int .i64 4, .int .i64 4] from (k26_mkM _ _ _ (⟨4, 4⟩ : S26) )) (Reps.none _ _)))); intro v335 w18 ho19 hb hg_ hnew_; clear hg_ hnew_; (first | rw [← Ny334.out] at ho19 | (simp only [Int.reduceToNat] at ho19; rw [← Ny334.out] at ho19)); have n0_ := Aside0.mk (Kd.R_lower ho19 (below_size (by repeat (first | (with_reducible first | exact HB.out | apply below_alloc | apply pw_below_drewN | apply below_drew1) | exact HB.out)))); have n1_ := Aside0.mk (below_step (by repeat (first | (with_reducible first | exact HB.out | apply below_alloc | apply pw_below_drewN | apply below_drew1) | exact HB.out)) hb); clear HB; have HO336 := n0_; have HB := n1_; clear n0_ n1_; clear hb ho19; obtain ⟨Ao20, co20, eo20⟩ := Kd.R_slice HO336.out; subst eo20) | (go_at_call 27; (with_reducible refine (span_IsNorm.calls k _ _ y334 false _ ?side1 ?side2 A5.out).mono ?_); (case side1 => repeat (first | exact (Kd.R_reads' HO336.out).2.2 | (with_reducible refine Kd.C_alloc ?_ _) | (with_reducible refine Kd.C_drewN ?_ _) | (with_reducible refine Kd.C_drew ?_))); (case side2 => exact (Kd.R_reads' HO336.out).2.1); rintro e w21 ⟨rfl, hb⟩; have n0_ := Aside0.mk (Kd.R_below (by (with_reducible repeat (first | apply Kd.R_alloc | apply Kd.R_drewN | apply Kd.R_drew)); exact HO336.out) hb); have n1_ := Aside0.mk (below_step (by repeat (first | (with_reducible first | exact HB.out | apply below_alloc | apply pw_below_drewN | apply below_drew1) | exact HB.out)) hb); clear HO336; clear HB; have HO336 := n0_; have HB := n1_; clear n0_ n1_; (try clear hb); (try clear hb2); (try clear hk); (try clear hi)))
    go_meet
    case rel => exact ⟨_, (true), (by first | rfl | (simp; done) | (simp [*]; done)), H', ⟨by first | omega | exact Nat.le_refl _⟩, ⟨by repeat (first | (with_reducible first | exact HB.out | apply below_alloc | apply pw_below_drewN | apply below_drew1) | exact HB.out)⟩⟩
  ·replace c4 := Bool.eq_false_iff.mpr c4
   subst c4
   have H1 : (barrowlaw01_SpanForms.j0 k l0 true) = some r := by rw [if_neg (show ¬ (false = true) by decide)] at H; exact H
   clear H
   have H := H1
   clear H1
   have H' := Aside0.mk H
   clear H
   go_wp2_with (first | ((with_reducible refine gate_callee (f := 26) rfl ?_); refine goesL_ (some 8) rfl rfl Try.func26 (by kernel_rfl) rfl #[] rfl (by (try simp only [List.map_toArray, List.map_cons, List.map_nil]); first | done | rfl | (simp only [List.length_drop, List.length_take]; rfl)) ?_; (with_reducible refine (barrowlaw01_awake.calls k  false _ A3.out).mono ?_); rintro e w22 ⟨rfl, hb⟩; refine ⟨_, rfl, ?_⟩; have n0_ := Aside0.mk (below_step (by repeat (first | (with_reducible first | exact HB.out | apply below_alloc | apply pw_below_drewN | apply below_drew1) | exact HB.out)) hb); clear HB; have HB := n0_; clear n0_; (try clear hb); (try clear hb2); (try clear hk); (try clear hi)))
   go_meet
   case rel => exact ⟨_, (true), (by first | rfl | (simp; done) | (simp [*]; done)), H', ⟨by first | omega | exact Nat.le_refl _⟩, ⟨by repeat (first | (with_reducible first | exact HB.out | apply below_alloc | apply pw_below_drewN | apply below_drew1) | exact HB.out)⟩⟩
 case rest =>
  clear HC2
  try clear c2
  try clear p2
  try clear c4
  try clear c6
  obtain ⟨kq, x22_1, rfl, HA, HJ1, HB⟩ := hcut
  cases kq with
  | zero => exact absurd HA.out (by simp [barrowlaw01_SpanForms.j0])
  | succ kj1 =>
   have H := HA.out
   clear HA
   simp only [barrowlaw01_SpanForms.j0] at H
   by_cases c23 : x22_1 = true
   ·subst c23
    have H1 : (some false) = some r := by rw [if_pos rfl] at H; exact H
    clear H
    have H := H1
    clear H1
    obtain rfl := Option.some.inj H
    go_wp2
    go_ret
    exact ⟨by first | rfl | (simp [errW_none, errW_some] <;> rfl) | (simp [*, errW_none, errW_some] <;> rfl), by repeat (first | (with_reducible first | exact HB.out | apply below_alloc | apply pw_below_drewN | apply below_drew1) | exact HB.out)⟩
   ·replace c23 := Bool.eq_false_iff.mpr c23
    subst c23
    have H1 : ((barrowref01_Norm.f kj1 l0).bind fun t342 => ((barrowref01_IsNorm.f kj1 l0).bind fun t345 => ((barrowref01_Size.f kj1 l0).bind fun t346 => ((barrowref01_Last.f kj1 l0).bind fun t347 => ((span_Norm.f kj1 l0).bind fun t348 => ((barrowref01_Equal.f kj1 t348 t342).bind fun t351 => (if t351 = true then ((span_IsNorm.f kj1 t348).bind fun t352 => (if t352 = true then ((span_IsNorm.f kj1 l0).bind fun t353 => (barrowlaw01_SpanForms.j1 kj1 l0 t346 t347 (t353 != t345))) else (barrowlaw01_SpanForms.j1 kj1 l0 t346 t347 true))) else (barrowlaw01_SpanForms.j1 kj1 l0 t346 t347 true)))))))) = some r := by rw [if_neg (show ¬ (false = true) by decide)] at H; exact H
    clear H
    have H := H1
    clear H1
    replace H := Option.bind_eq_some_iff.mp H
    obtain ⟨t342, A240, H⟩ := H
    replace H : ((barrowref01_IsNorm.f kj1 l0).bind fun t345 => ((barrowref01_Size.f kj1 l0).bind fun t346 => ((barrowref01_Last.f kj1 l0).bind fun t347 => ((span_Norm.f kj1 l0).bind fun t348 => ((barrowref01_Equal.f kj1 t348 t342).bind fun t351 => (if t351 = true then ((span_IsNorm.f kj1 t348).bind fun t352 => (if t352 = true then ((span_IsNorm.f kj1 l0).bind fun t353 => (barrowlaw01_SpanForms.j1 kj1 l0 t346 t347 (t353 != t345))) else (barrowlaw01_SpanForms.j1 kj1 l0 t346 t347 true))) else (barrowlaw01_SpanForms.j1 kj1 l0 t346 t347 true))))))) = some r := H
    have A24 := Aside0.mk A240
    clear A240
    replace H := Option.bind_eq_some_iff.mp H
    obtain ⟨t345, A250, H⟩ := H
    replace H : ((barrowref01_Size.f kj1 l0).bind fun t346 => ((barrowref01_Last.f kj1 l0).bind fun t347 => ((span_Norm.f kj1 l0).bind fun t348 => ((barrowref01_Equal.f kj1 t348 t342).bind fun t351 => (if t351 = true then ((span_IsNorm.f kj1 t348).bind fun t352 => (if t352 = true then ((span_IsNorm.f kj1 l0).bind fun t353 => (barrowlaw01_SpanForms.j1 kj1 l0 t346 t347 (t353 != t345))) else (barrowlaw01_SpanForms.j1 kj1 l0 t346 t347 true))) else (barrowlaw01_SpanForms.j1 kj1 l0 t346 t347 true)))))) = some r := H
    have A25 := Aside0.mk A250
    clear A250
    replace H := Option.bind_eq_some_iff.mp H
    obtain ⟨t346, A260, H⟩ := H
    replace H : ((barrowref01_Last.f kj1 l0).bind fun t347 => ((span_Norm.f kj1 l0).bind fun t348 => ((barrowref01_Equal.f kj1 t348 t342).bind fun t351 => (if t351 = true then ((span_IsNorm.f kj1 t348).bind fun t352 => (if t352 = true then ((span_IsNorm.f kj1 l0).bind fun t353 => (barrowlaw01_SpanForms.j1 kj1 l0 t346 t347 (t353 != t345))) else (barrowlaw01_SpanForms.j1 kj1 l0 t346 t347 true))) else (barrowlaw01_SpanForms.j1 kj1 l0 t346 t347 true))))) = some r := H
    have A26 := Aside0.mk A260
    clear A260
    replace H := Option.bind_eq_some_iff.mp H
    obtain ⟨t347, A270, H⟩ := H
    replace H : ((span_Norm.f kj1 l0).bind fun t348 => ((barrowref01_Equal.f kj1 t348 t342).bind fun t351 => (if t351 = true then ((span_IsNorm.f kj1 t348).bind fun t352 => (if t352 = true then ((span_IsNorm.f kj1 l0).bind fun t353 => (barrowlaw01_SpanForms.j1 kj1 l0 t346 t347 (t353 != t345))) else (barrowlaw01_SpanForms.j1 kj1 l0 t346 t347 true))) else (barrowlaw01_SpanForms.j1 kj1 l0 t346 t347 true)))) = some r := H
    have A27 := Aside0.mk A270
    clear A270
    replace H := Option.bind_eq_some_iff.mp H
    obtain ⟨t348, A280, H⟩ := H
    replace H : ((barrowref01_Equal.f kj1 t348 t342).bind fun t351 => (if t351 = true then ((span_IsNorm.f kj1 t348).bind fun t352 => (if t352 = true then ((span_IsNorm.f kj1 l0).bind fun t353 => (barrowlaw01_SpanForms.j1 kj1 l0 t346 t347 (t353 != t345))) else (barrowlaw01_SpanForms.j1 kj1 l0 t346 t347 true))) else (barrowlaw01_SpanForms.j1 kj1 l0 t346 t347 true))) = some r := H
    have A28 := Aside0.mk A280
    clear A280
    have HC29 := Aside0.mk H
    clear H
    go_upto_region 8 with (first | ((with_reducible refine gate_callee (f := 28) rfl ?_); refine goesL_ (some 24) rfl rfl Try.func28 (by kernel_rfl) rfl #[.slice A0 l0.length c0] rfl (by (try simp only [List.map_toArray, List.map_cons, List.map_nil]); first | done | rfl | (simp only [List.length_drop, List.length_take]; rfl)) ?_; (with_reducible refine (barrowref01_Norm.calls kj1 (fun k_ => k_ < w.heap.size) _ _ l0 t342 _ ?side1 A24.out).mono ?_); (case side1 => exact Kd.V_mk HC0.out (Kd.F_below (Kd.C_F k26_heap HR0.out) (by repeat (first | (with_reducible first | exact HB.out | apply below_alloc | apply pw_below_drewN | apply below_drew1) | exact HB.out)))); rintro e w30 ⟨v343, rfl, ho0, hb⟩; refine ⟨_, rfl, ?_⟩; have n0_ := Aside0.mk (Kd.R_lower (Kd.R_mono (ok' := fun k_ => True) ho0 (fun _ hk_ => trivial)) (below_size (by repeat (first | (with_reducible first | exact HB.out | apply below_alloc | apply pw_below_drewN | apply below_drew1) | exact HB.out)))); have n1_ := Aside0.mk (below_step (by repeat (first | (with_reducible first | exact HB.out | apply below_alloc | apply pw_below_drewN | apply below_drew1) | exact HB.out)) hb); clear HB; have HO344 := n0_; have HB := n1_; clear n0_ n1_; (try clear hb); (try clear hb2); (try clear hk); (try clear hi); (try clear ho0)) | ((with_reducible refine gate_callee (f := 29) rfl ?_); refine goesL_ (some 26) rfl rfl Try.func29 (by kernel_rfl) rfl #[.slice A0 l0.length c0] rfl (by (try simp only [List.map_toArray, List.map_cons, List.map_nil]); first | done | rfl | (simp only [List.length_drop, List.length_take]; rfl)) ?_; (with_reducible refine (barrowref01_IsNorm.calls kj1 _ _ l0 t345 _ ?side1 ?side2 A25.out).mono ?_); (case side1 => repeat (first | exact (Kd.C_below HR0.out HB.out) | (with_reducible refine Kd.C_alloc ?_ _) | (with_reducible refine Kd.C_drewN ?_ _) | (with_reducible refine Kd.C_drew ?_))); (case side2 => exact HC0.out); rintro e w' ⟨rfl, ⟨nd, rfl⟩⟩; refine ⟨_, rfl, ?_⟩) | ((with_reducible refine gate_callee (f := 30) rfl ?_); refine goesL_ (some 28) rfl rfl Try.func30 (by kernel_rfl) rfl #[.slice A0 l0.length c0] rfl (by (try simp only [List.map_toArray, List.map_cons, List.map_nil]); first | done | rfl | (simp only [List.length_drop, List.length_take]; rfl)) ?_; (with_reducible refine (barrowref01_Size.calls kj1 _ _ l0 t346 _ ?side1 ?side2 A26.out).mono ?_); (case side1 => repeat (first | exact (Kd.C_below HR0.out (by repeat (first | (with_reducible first | exact HB.out | apply below_alloc | apply pw_below_drewN | apply below_drew1) | exact HB.out))) | (with_reducible refine Kd.C_alloc ?_ _) | (with_reducible refine Kd.C_drewN ?_ _) | (with_reducible refine Kd.C_drew ?_))); (case side2 => exact HC0.out); rintro e w31 ⟨rfl, hb⟩; refine ⟨_, rfl, ?_⟩; have n0_ := Aside0.mk (Kd.R_below (by (with_reducible repeat (first | apply Kd.R_alloc | apply Kd.R_drewN | apply Kd.R_drew)); exact HO344.out) hb); have n1_ := Aside0.mk (below_step (by repeat (first | (with_reducible first | exact HB.out | apply below_alloc | apply pw_below_drewN | apply below_drew1) | exact HB.out)) hb); clear HO344; clear HB; have HO344 := n0_; have HB := n1_; clear n0_ n1_; (try clear hb); (try clear hb2); (try clear hk); (try clear hi)) | ((with_reducible refine gate_callee (f := 31) rfl ?_); refine goesL_ (some 30) rfl rfl Try.func31 (by kernel_rfl) rfl #[.slice A0 l0.length c0] rfl (by (try simp only [List.map_toArray, List.map_cons, List.map_nil]); first | done | rfl | (simp only [List.length_drop, List.length_take]; rfl)) ?_; (with_reducible refine (barrowref01_Last.calls kj1 _ _ l0 t347 _ ?side1 ?side2 A27.out).mono ?_); (case side1 => repeat (first | exact (Kd.C_below HR0.out HB.out) | (with_reducible refine Kd.C_alloc ?_ _) | (with_reducible refine Kd.C_drewN ?_ _) | (with_reducible refine Kd.C_drew ?_))); (case side2 => exact HC0.out); rintro e w' ⟨rfl, ⟨nd, rfl⟩⟩; refine ⟨_, rfl, ?_⟩) | ((with_reducible refine gate_callee (f := 32) rfl ?_); refine goesL_ (some 32) rfl rfl Try.func32 (by kernel_rfl) rfl #[.slice A0 l0.length c0] rfl (by (try simp only [List.map_toArray, List.map_cons, List.map_nil]); first | done | rfl | (simp only [List.length_drop, List.length_take]; rfl)) ?_; (with_reducible refine (span_Norm.calls kj1 (fun k_ => k_ < w.heap.size) _ _ l0 t348 _ ?side1 A28.out).mono ?_); (case side1 => exact Kd.V_mk HC0.out (Kd.F_below (Kd.C_F k26_heap HR0.out) (by repeat (first | (with_reducible first | exact HB.out | apply below_alloc | apply pw_below_drewN | apply below_drew1) | exact HB.out)))); rintro e w32 ⟨v349, rfl, ho0, hb⟩; refine ⟨_, rfl, ?_⟩; have n0_ := Aside0.mk (Kd.R_elder' (by (with_reducible repeat (first | apply Kd.R_alloc | apply Kd.R_drewN | apply Kd.R_drew)); exact HO344.out) (Kd.R_base ho0) hb); have n1_ := Aside0.mk (Kd.R_lower (Kd.R_new' (Kd.R_mono (ok' := fun k_ => True) ho0 (fun _ hk_ => trivial)) (Kd.R_lt (by (with_reducible repeat (first | apply Kd.R_alloc | apply Kd.R_drewN | apply Kd.R_drew)); exact HO344.out))) (below_size (by repeat (first | (with_reducible first | exact HB.out | apply below_alloc | apply pw_below_drewN | apply below_drew1) | exact HB.out)))); have n2_ := Aside0.mk (below_step (by repeat (first | (with_reducible first | exact HB.out | apply below_alloc | apply pw_below_drewN | apply below_drew1) | exact HB.out)) hb); clear HO344; clear HB; have HO344 := n0_; have HO350 := n1_; have HB := n2_; clear n0_ n1_ n2_; (try clear hb); (try clear hb2); (try clear hk); (try clear hi); (try clear ho0)))
    (try simp only [Act.put, List.setIfInBounds_toArray, List.set_cons_zero, List.set_cons_succ])
    go_cut [47] (fun v47 wc => ∃ (kq : Nat) (x47_28 : Bool), v47 = .bool x47_28 ∧ Aside0 (barrowlaw01_SpanForms.j1 kq l0 t346 t347 x47_28 = some r) ∧ Aside0 (kq ≤ kj1) ∧ Aside0 (Below w.heap.size w wc))
    case first =>
     have H := HC29.out
     clear HC29
     replace H := Option.bind_eq_some_iff.mp H
     obtain ⟨t351, A330, H⟩ := H
     replace H : (if t351 = true then ((span_IsNorm.f kj1 t348).bind fun t352 => (if t352 = true then ((span_IsNorm.f kj1 l0).bind fun t353 => (barrowlaw01_SpanForms.j1 kj1 l0 t346 t347 (t353 != t345))) else (barrowlaw01_SpanForms.j1 kj1 l0 t346 t347 true))) else (barrowlaw01_SpanForms.j1 kj1 l0 t346 t347 true)) = some r := H
     have A33 := Aside0.mk A330
     clear A330
     by_cases c34 : t351 = true
     ·subst c34
      have H1 : ((span_IsNorm.f kj1 t348).bind fun t352 => (if t352 = true then ((span_IsNorm.f kj1 l0).bind fun t353 => (barrowlaw01_SpanForms.j1 kj1 l0 t346 t347 (t353 != t345))) else (barrowlaw01_SpanForms.j1 kj1 l0 t346 t347 true))) = some r := by rw [if_pos rfl] at H; exact H
      clear H
      have H := H1
      clear H1
      replace H := Option.bind_eq_some_iff.mp H
      obtain ⟨t352, A350, H⟩ := H
      replace H : (if t352 = true then ((span_IsNorm.f kj1 l0).bind fun t353 => (barrowlaw01_SpanForms.j1 kj1 l0 t346 t347 (t353 != t345))) else (barrowlaw01_SpanForms.j1 kj1 l0 t346 t347 true)) = some r := H
      have A35 := Aside0.mk A350
      clear A350
      by_cases c36 : t352 = true
      ·subst c36
       have H1 : ((span_IsNorm.f kj1 l0).bind fun t353 => (barrowlaw01_SpanForms.j1 kj1 l0 t346 t347 (t353 != t345))) = some r := by rw [if_pos rfl] at H; exact H
       clear H
       have H := H1
       clear H1
       replace H := Option.bind_eq_some_iff.mp H
       obtain ⟨t353, A370, H⟩ := H
       replace H : (barrowlaw01_SpanForms.j1 kj1 l0 t346 t347 (t353 != t345)) = some r := H
       have A37 := Aside0.mk A370
       clear A370
       have H' := Aside0.mk H
       clear H
       obtain ⟨Ao38, co38, eo38⟩ := Kd.R_slice HO350.out
       subst eo38
       obtain ⟨Ao39, co39, eo39⟩ := Kd.R_slice HO344.out
       subst eo39
       go_wp2_with (first | ((with_reducible refine gate_callee (f := 19) rfl ?_); refine goesL_ (some 35) rfl rfl Try.func19 (by kernel_rfl) rfl #[.slice Ao38 t348.length co38, .slice Ao39 t342.length co39] rfl (by (try simp only [List.map_toArray, List.map_cons, List.map_nil]); first | done | rfl | (simp only [List.length_drop, List.length_take]; rfl)) ?_; (with_reducible refine (barrowref01_Equal.calls kj1 _ _ t348 _ _ t342 true _ ?side1 ?side2 ?side3 ?side4 A33.out).mono ?_); (case side1 => repeat (first | exact (Kd.R_reads' HO350.out).2.2 | (with_reducible refine Kd.C_alloc ?_ _) | (with_reducible refine Kd.C_drewN ?_ _) | (with_reducible refine Kd.C_drew ?_))); (case side2 => exact (Kd.R_reads' HO350.out).2.1); (case side3 => repeat (first | exact (Kd.R_reads' HO344.out).2.2 | (with_reducible refine Kd.C_alloc ?_ _) | (with_reducible refine Kd.C_drewN ?_ _) | (with_reducible refine Kd.C_drew ?_))); (case side4 => exact (Kd.R_reads' HO344.out).2.1); rintro e w' ⟨rfl, ⟨nd, rfl⟩⟩; refine ⟨_, rfl, ?_⟩) | (go_at_call 27; (with_reducible refine (span_IsNorm.calls kj1 _ _ t348 true _ ?side1 ?side2 A35.out).mono ?_); (case side1 => repeat (first | exact (Kd.R_reads' HO350.out).2.2 | (with_reducible refine Kd.C_alloc ?_ _) | (with_reducible refine Kd.C_drewN ?_ _) | (with_reducible refine Kd.C_drew ?_))); (case side2 => exact (Kd.R_reads' HO350.out).2.1); rintro e w40 ⟨rfl, hb⟩; have n0_ := Aside0.mk (Kd.R_below (by (with_reducible repeat (first | apply Kd.R_alloc | apply Kd.R_drewN | apply Kd.R_drew)); exact HO344.out) hb); have n1_ := Aside0.mk (Kd.R_below (by (with_reducible repeat (first | apply Kd.R_alloc | apply Kd.R_drewN | apply Kd.R_drew)); exact HO350.out) hb); have n2_ := Aside0.mk (below_step (by repeat (first | (with_reducible first | exact HB.out | apply below_alloc | apply pw_below_drewN | apply below_drew1) | exact HB.out)) hb); clear HO344; clear HO350; clear HB; have HO344 := n0_; have HO350 := n1_; have HB := n2_; clear n0_ n1_ n2_; (try clear hb); (try clear hb2); (try clear hk); (try clear hi)) | (go_at_call 27; (with_reducible refine (span_IsNorm.calls kj1 _ _ l0 t353 _ ?side1 ?side2 A37.out).mono ?_); (case side1 => repeat (first | exact (Kd.C_below HR0.out HB.out) | (with_reducible refine Kd.C_alloc ?_ _) | (with_reducible refine Kd.C_drewN ?_ _) | (with_reducible refine Kd.C_drew ?_))); (case side2 => exact HC0.out); rintro e w41 ⟨rfl, hb⟩; have n0_ := Aside0.mk (Kd.R_below (by (with_reducible repeat (first | apply Kd.R_alloc | apply Kd.R_drewN | apply Kd.R_drew)); exact HO344.out) hb); have n1_ := Aside0.mk (Kd.R_below (by (with_reducible repeat (first | apply Kd.R_alloc | apply Kd.R_drewN | apply Kd.R_drew)); exact HO350.out) hb); have n2_ := Aside0.mk (below_step (by repeat (first | (with_reducible first | exact HB.out | apply below_alloc | apply pw_below_drewN | apply below_drew1) | exact HB.out)) hb); clear HO344; clear HO350; clear HB; have HO344 := n0_; have HO350 := n1_; have HB := n2_; clear n0_ n1_ n2_; (try clear hb); (try clear hb2); (try clear hk); (try clear hi)))
       go_meet
       case rel => exact ⟨_, ((t353 != t345)), (by first | rfl | (simp; done) | (simp [*]; done)), H', ⟨by have := HJ1.out; first | omega | exact Nat.le_refl _⟩, ⟨by repeat (first | (with_reducible first | exact HB.out | apply below_alloc | apply pw_below_drewN | apply below_drew1) | exact HB.out)⟩⟩
      ·replace c36 := Bool.eq_false_iff.mpr c36
       subst c36
       have H1 : (barrowlaw01_SpanForms.j1 kj1 l0 t346 t347 true) = some r := by rw [if_neg (show ¬ (false = true) by decide)] at H; exact H
       clear H
       have H := H1
       clear H1
       have H' := Aside0.mk H
       clear H
       obtain ⟨Ao42, co42, eo42⟩ := Kd.R_slice HO350.out
       subst eo42
       obtain ⟨Ao43, co43, eo43⟩ := Kd.R_slice HO344.out
       subst eo43
       go_wp2_with (first | ((with_reducible refine gate_callee (f := 19) rfl ?_); refine goesL_ (some 35) rfl rfl Try.func19 (by kernel_rfl) rfl #[.slice Ao42 t348.length co42, .slice Ao43 t342.length co43] rfl (by (try simp only [List.map_toArray, List.map_cons, List.map_nil]); first | done | rfl | (simp only [List.length_drop, List.length_take]; rfl)) ?_; (with_reducible refine (barrowref01_Equal.calls kj1 _ _ t348 _ _ t342 true _ ?side1 ?side2 ?side3 ?side4 A33.out).mono ?_); (case side1 => repeat (first | exact (Kd.R_reads' HO350.out).2.2 | (with_reducible refine Kd.C_alloc ?_ _) | (with_reducible refine Kd.C_drewN ?_ _) | (with_reducible refine Kd.C_drew ?_))); (case side2 => exact (Kd.R_reads' HO350.out).2.1); (case side3 => repeat (first | exact (Kd.R_reads' HO344.out).2.2 | (with_reducible refine Kd.C_alloc ?_ _) | (with_reducible refine Kd.C_drewN ?_ _) | (with_reducible refine Kd.C_drew ?_))); (case side4 => exact (Kd.R_reads' HO344.out).2.1); rintro e w' ⟨rfl, ⟨nd, rfl⟩⟩; refine ⟨_, rfl, ?_⟩) | (go_at_call 27; (with_reducible refine (span_IsNorm.calls kj1 _ _ t348 false _ ?side1 ?side2 A35.out).mono ?_); (case side1 => repeat (first | exact (Kd.R_reads' HO350.out).2.2 | (with_reducible refine Kd.C_alloc ?_ _) | (with_reducible refine Kd.C_drewN ?_ _) | (with_reducible refine Kd.C_drew ?_))); (case side2 => exact (Kd.R_reads' HO350.out).2.1); rintro e w44 ⟨rfl, hb⟩; have n0_ := Aside0.mk (Kd.R_below (by (with_reducible repeat (first | apply Kd.R_alloc | apply Kd.R_drewN | apply Kd.R_drew)); exact HO344.out) hb); have n1_ := Aside0.mk (Kd.R_below (by (with_reducible repeat (first | apply Kd.R_alloc | apply Kd.R_drewN | apply Kd.R_drew)); exact HO350.out) hb); have n2_ := Aside0.mk (below_step (by repeat (first | (with_reducible first | exact HB.out | apply below_alloc | apply pw_below_drewN | apply below_drew1) | exact HB.out)) hb); clear HO344; clear HO350; clear HB; have HO344 := n0_; have HO350 := n1_; have HB := n2_; clear n0_ n1_ n2_; (try clear hb); (try clear hb2); (try clear hk); (try clear hi)))
       go_meet
       case rel => exact ⟨_, (true), (by first | rfl | (simp; done) | (simp [*]; done)), H', ⟨by have := HJ1.out; first | omega | exact Nat.le_refl _⟩, ⟨by repeat (first | (with_reducible first | exact HB.out | apply below_alloc | apply pw_below_drewN | apply below_drew1) | exact HB.out)⟩⟩
     ·replace c34 := Bool.eq_false_iff.mpr c34
      subst c34
      have H1 : (barrowlaw01_SpanForms.j1 kj1 l0 t346 t347 true) = some r := by rw [if_neg (show ¬ (false = true) by decide)] at H; exact H
      clear H
      have H := H1
      clear H1
      have H' := Aside0.mk H
      clear H
      obtain ⟨Ao45, co45, eo45⟩ := Kd.R_slice HO350.out
      subst eo45
      obtain ⟨Ao46, co46, eo46⟩ := Kd.R_slice HO344.out
      subst eo46
      go_wp2_with (first | ((with_reducible refine gate_callee (f := 19) rfl ?_); refine goesL_ (some 35) rfl rfl Try.func19 (by kernel_rfl) rfl #[.slice Ao45 t348.length co45, .slice Ao46 t342.length co46] rfl (by (try simp only [List.map_toArray, List.map_cons, List.map_nil]); first | done | rfl | (simp only [List.length_drop, List.length_take]; rfl)) ?_; (with_reducible refine (barrowref01_Equal.calls kj1 _ _ t348 _ _ t342 false _ ?side1 ?side2 ?side3 ?side4 A33.out).mono ?_); (case side1 => repeat (first | exact (Kd.R_reads' HO350.out).2.2 | (with_reducible refine Kd.C_alloc ?_ _) | (with_reducible refine Kd.C_drewN ?_ _) | (with_reducible refine Kd.C_drew ?_))); (case side2 => exact (Kd.R_reads' HO350.out).2.1); (case side3 => repeat (first | exact (Kd.R_reads' HO344.out).2.2 | (with_reducible refine Kd.C_alloc ?_ _) | (with_reducible refine Kd.C_drewN ?_ _) | (with_reducible refine Kd.C_drew ?_))); (case side4 => exact (Kd.R_reads' HO344.out).2.1); rintro e w' ⟨rfl, ⟨nd, rfl⟩⟩; refine ⟨_, rfl, ?_⟩))
      go_meet
      case rel => exact ⟨_, (true), (by first | rfl | (simp; done) | (simp [*]; done)), H', ⟨by have := HJ1.out; first | omega | exact Nat.le_refl _⟩, ⟨by repeat (first | (with_reducible first | exact HB.out | apply below_alloc | apply pw_below_drewN | apply below_drew1) | exact HB.out)⟩⟩
    case rest =>
     clear HC29
     try clear c1
     try clear c2
     try clear p2
     try clear c3
     try clear c4
     try clear c6
     try clear c19
     try clear c23
     try clear c26
     try clear c28
     try clear c29
     try clear c30
     try clear c31
     try clear c32
     try clear c34
     try clear c36
     try clear p2
     obtain ⟨kq, x47_28, rfl, HA, HJ28, HB⟩ := hcut
     cases kq with
     | zero => exact absurd HA.out (by simp [barrowlaw01_SpanForms.j1])
     | succ kj28 =>
      have H := HA.out
      clear HA
      simp only [barrowlaw01_SpanForms.j1] at H
      by_cases c47 : x47_28 = true
      ·subst c47
       have H1 : (some false) = some r := by rw [if_pos rfl] at H; exact H
       clear H
       have H := H1
       clear H1
       obtain rfl := Option.some.inj H
       go_wp2
       go_ret
       exact ⟨by first | rfl | (simp [errW_none, errW_some] <;> rfl) | (simp [*, errW_none, errW_some] <;> rfl), by repeat (first | (with_reducible first | exact HB.out | apply below_alloc | apply pw_below_drewN | apply below_drew1) | exact HB.out)⟩
      ·replace c47 := Bool.eq_false_iff.mpr c47
       subst c47
       have H1 : ((span_Size.f kj28 l0).bind fun t354 => (if t354 = t346 then ((span_Last.f kj28 l0).bind fun t355 => (some (t355 == t347))) else (some false))) = some r := by rw [if_neg (show ¬ (false = true) by decide)] at H; exact H
       clear H
       have H := H1
       clear H1
       replace H := Option.bind_eq_some_iff.mp H
       obtain ⟨t354, A480, H⟩ := H
       replace H : (if t354 = t346 then ((span_Last.f kj28 l0).bind fun t355 => (some (t355 == t347))) else (some false)) = some r := H
       have A48 := Aside0.mk A480
       clear A480
       by_cases c49 : t354 = t346
       ·rw [if_pos c49] at H
        have c49b0 : (t354 == t346) = true := beq_iff_eq.mpr c49
        have c49b1 : (t354 != t346) = false := bne_eq_false_iff_eq.mpr c49
        clear c49
        replace H := Option.bind_eq_some_iff.mp H
        obtain ⟨t355, A500, H⟩ := H
        replace H : (some (t355 == t347)) = some r := H
        have A50 := Aside0.mk A500
        clear A500
        obtain rfl := Option.some.inj H
        go_wp2_with (first | ((with_reducible refine gate_callee (f := 33) rfl ?_); refine goesL_ (some 49) rfl rfl Try.func33 (by kernel_rfl) rfl #[.slice A0 l0.length c0] rfl (by (try simp only [List.map_toArray, List.map_cons, List.map_nil]); first | done | rfl | (simp only [List.length_drop, List.length_take]; rfl)) ?_; (with_reducible refine (span_Size.calls kj28 _ _ l0 t354 _ ?side1 ?side2 A48.out).mono ?_); (case side1 => repeat (first | exact (Kd.C_below HR0.out HB.out) | (with_reducible refine Kd.C_alloc ?_ _) | (with_reducible refine Kd.C_drewN ?_ _) | (with_reducible refine Kd.C_drew ?_))); (case side2 => exact HC0.out); rintro e w51 ⟨rfl, hb⟩; refine ⟨_, rfl, ?_⟩; have n0_ := Aside0.mk (below_step (by repeat (first | (with_reducible first | exact HB.out | apply below_alloc | apply pw_below_drewN | apply below_drew1) | exact HB.out)) hb); clear HB; have HB := n0_; clear n0_; (try clear hb); (try clear hb2); (try clear hk); (try clear hi)) | (go_at_call 34; (with_reducible refine (span_Last.calls kj28 _ _ l0 t355 _ ?side1 ?side2 A50.out).mono ?_); (case side1 => repeat (first | exact (Kd.C_below HR0.out HB.out) | (with_reducible refine Kd.C_alloc ?_ _) | (with_reducible refine Kd.C_drewN ?_ _) | (with_reducible refine Kd.C_drew ?_))); (case side2 => exact HC0.out); rintro e w52 ⟨rfl, hb⟩; have n0_ := Aside0.mk (below_step (by repeat (first | (with_reducible first | exact HB.out | apply below_alloc | apply pw_below_drewN | apply below_drew1) | exact HB.out)) hb); clear HB; have HB := n0_; clear n0_; (try clear hb); (try clear hb2); (try clear hk); (try clear hi)))
        go_ret
        exact ⟨by first | rfl | (simp [errW_none, errW_some] <;> rfl) | (simp [*, errW_none, errW_some] <;> rfl), by repeat (first | (with_reducible first | exact HB.out | apply below_alloc | apply pw_below_drewN | apply below_drew1) | exact HB.out)⟩
       ·rw [if_neg c49] at H
        have c49b0 : (t354 == t346) = false := beq_eq_false_iff_ne.mpr c49
        have c49b1 : (t354 != t346) = true := bne_iff_ne.mpr c49
        obtain rfl := Option.some.inj H
        go_wp2_with (first | ((with_reducible refine gate_callee (f := 33) rfl ?_); refine goesL_ (some 49) rfl rfl Try.func33 (by kernel_rfl) rfl #[.slice A0 l0.length c0] rfl (by (try simp only [List.map_toArray, List.map_cons, List.map_nil]); first | done | rfl | (simp only [List.length_drop, List.length_take]; rfl)) ?_; (with_reducible refine (span_Size.calls kj28 _ _ l0 t354 _ ?side1 ?side2 A48.out).mono ?_); (case side1 => repeat (first | exact (Kd.C_below HR0.out HB.out) | (with_reducible refine Kd.C_alloc ?_ _) | (with_reducible refine Kd.C_drewN ?_ _) | (with_reducible refine Kd.C_drew ?_))); (case side2 => exact HC0.out); rintro e w53 ⟨rfl, hb⟩; refine ⟨_, rfl, ?_⟩; have n0_ := Aside0.mk (below_step (by repeat (first | (with_reducible first | exact HB.out | apply below_alloc | apply pw_below_drewN | apply below_drew1) | exact HB.out)) hb); clear HB; have HB := n0_; clear n0_; (try clear hb); (try clear hb2); (try clear hk); (try clear hi)))
        go_ret
        exact ⟨by first | rfl | (simp [errW_none, errW_some] <;> rfl) | (simp [*, errW_none, errW_some] <;> rfl), by repeat (first | (with_reducible first | exact HB.out | apply below_alloc | apply pw_below_drewN | apply below_drew1) | exact HB.out)⟩

end Go.Proofs.Yteldhpneegccjaa.G
