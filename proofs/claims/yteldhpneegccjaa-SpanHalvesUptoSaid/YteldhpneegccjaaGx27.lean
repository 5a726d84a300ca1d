-- PRINTED by print.py (a twelfth state) out of the translation. Not trusted: Lean checks it.
import Derived.Test.YteldhpneegccjaaGx0
import Derived.Test.YteldhpneegccjaaGx10
import Derived.Test.YteldhpneegccjaaCln
namespace Go.Proofs.Yteldhpneegccjaa.G
open Go.RowKit Go.Proofs.YteldhpneegccjaaW.PrintWords Go.Proofs.YteldhpneegccjaaW.PrintLast Go.Proofs.YteldhpneegccjaaW.PrintMore
attribute [local go_sem] max2_int min2_int max_two min_two max_three min_three max_four min_four   -- for this text's walks alone
set_option linter.unusedVariables false
set_option linter.unusedSimpArgs false

/-! ### span_Lead: function 35 -/
def span_Lead.f (k : Nat) (l0 : List (S26)) : Option (Int × (List (S26))) := (span_Norm.f k l0).bind fun t356 => (if (t356.length : Int) = 0 then (some (0, t356)) else (if 0 < (t356.length : Int) then (if ((rd_T26 t356 0).f0) = 1 then (if 1 ≤ (t356.length : Int) then ((api_Run_64.f (t356.drop 1)).bind fun t365 => (some ((rd_T26 t356 0).f1, t365))) else (none)) else (some (0, t356))) else (none)))
theorem span_Lead.mono : ∀ a0 k, LeO (span_Lead.f k a0) (span_Lead.f (k + 1) a0) := by
 intro a0 k
 unfold span_Lead.f
 repeat' first
   | (with_reducible exact span_Norm.mono _ _)
   | (with_reducible exact LeO.refl _)
   | (with_reducible exact LeO.none _)
   | (with_reducible refine LeO.ite ?_ ?_)
   | (with_reducible refine LeO.bind ?_ (fun _ => ?_))
   | exact span_Norm.mono _ _
   | exact LeO.none _
   | refine LeO.ite ?_ ?_
   | refine LeO.bind ?_ (fun _ => ?_)
def span_Lead.T4 : Bool × List (List Nat × List Nat) := (true, [([], []), ([0], [0]), ([1], [1]), ([2], [2]), ([], []), ([4], [4]), ([5], [5]), ([3, 6, 0, 1, 2, 3], [3]), ([6, 7, 0, 1, 2, 3, 4, 5, 6, 7], [6])])
def span_Lead.B4 : List Nat := [0, 1, 3, 7, 0, 16, 48, 127, 255]
theorem span_Lead.tab4 : rtab .any (opsOf Try.f35 4) = span_Lead.T4 := by kernel_rfl
theorem span_Lead.bits4 : waitsOk span_Lead.T4.2 span_Lead.B4 = true := by kernel_rfl
set_option maxHeartbeats 8000000 in
set_option maxRecDepth 100000 in
theorem span_Lead.calls (k : Nat) (A0 : Option Addr) (c0 : Nat) (l0 : List (S26)) (r1 : Int) (r2 : List (S26)) (w : World) (hr0 : Kd.C k26 w A0 l0.length l0) (hc0 : l0.length ≤ c0) (h : span_Lead.f k l0 = some (r1, r2)) :
  Calls Try.prog 35 #[.slice A0 l0.length c0] w fun e w' => ∃ v1_ : Value, e = .returned (.tuple #[.int .i64 r1, v1_]) ∧ Kd.R k26 26 w' w.heap.size (fun _ => True) v1_ r2 ∧ Below w.heap.size w w' := by
 have HR0 := Aside0.mk hr0
 have HC0 := Aside0.mk hc0
 clear hr0 hc0
 have HB := Aside0.mk (Below.refl w.heap.size w)
 have H : ((span_Norm.f k l0).bind fun t356 => (if (t356.length : Int) = 0 then (some (0, t356)) else (if 0 < (t356.length : Int) then (if ((rd_T26 t356 0).f0) = 1 then (if 1 ≤ (t356.length : Int) then ((api_Run_64.f (t356.drop 1)).bind fun t365 => (some ((rd_T26 t356 0).f1, t365))) else (none)) else (some (0, t356))) else (none)))) = some (r1, r2) := h
 clear h
 replace H := Option.bind_eq_some_iff.mp H
 obtain ⟨t356, A20, H⟩ := H
 replace H : (if (t356.length : Int) = 0 then (some (0, t356)) else (if 0 < (t356.length : Int) then (if ((rd_T26 t356 0).f0) = 1 then (if 1 ≤ (t356.length : Int) then ((api_Run_64.f (t356.drop 1)).bind fun t365 => (some ((rd_T26 t356 0).f1, t365))) else (none)) else (some (0, t356))) else (none))) = some (r1, r2) := H
 have A2 := Aside0.mk A20
 clear A20
 by_cases c3 : (t356.length : Int) = 0
 ·rw [if_pos c3] at H
  have c3b0 : ((t356.length : Int) == 0) = true := beq_iff_eq.mpr c3
  have c3b1 : ((t356.length : Int) != 0) = false := bne_eq_false_iff_eq.mpr c3
  clear c3
  simp only [Option.some.injEq, Prod.mk.injEq] at H
  obtain ⟨rfl, rfl⟩ := H
  go_enter Try.func35, Try.ntmps35
  go_wp2_with (first | ((with_reducible refine gate_callee (f := 32) rfl ?_); refine goesL_ (some 6) rfl rfl Try.func32 (by kernel_rfl) rfl #[.slice A0 l0.length c0] rfl (by (try simp only [List.map_toArray, List.map_cons, List.map_nil]); first | done | rfl | (simp only [List.length_drop, List.length_take]; rfl)) ?_; (with_reducible refine (span_Norm.calls k (fun k_ => k_ < w.heap.size) _ _ l0 t356 _ ?side1 A2.out).mono ?_); (case side1 => exact Kd.V_mk HC0.out (Kd.F_below (Kd.C_F k26_heap HR0.out) (by repeat (first | (with_reducible first | exact HB.out | apply below_alloc | apply pw_below_drewN | apply below_drew1) | exact HB.out)))); rintro e w4 ⟨v357, rfl, ho0, hb⟩; refine ⟨_, rfl, ?_⟩; have n0_ := Aside0.mk (Kd.R_lower (Kd.R_mono (ok' := fun k_ => True) ho0 (fun _ hk_ => trivial)) (below_size (by repeat (first | (with_reducible first | exact HB.out | apply below_alloc | apply pw_below_drewN | apply below_drew1) | exact HB.out)))); have n1_ := Aside0.mk (below_step (by repeat (first | (with_reducible first | exact HB.out | apply below_alloc | apply pw_below_drewN | apply below_drew1) | exact HB.out)) hb); clear HB; have HO358 := n0_; have HB := n1_; clear n0_ n1_; (try clear hb); (try clear hb2); (try clear hk); (try clear hi); (try clear ho0); obtain ⟨Ao5, co5, eo5⟩ := Kd.R_slice HO358.out; subst eo5))
  go_ret2
  exact ⟨_, by first | rfl | (simp [errW_none, errW_some] <;> rfl) | (simp [*, errW_none, errW_some] <;> rfl), by (with_reducible repeat (first | apply Kd.R_alloc | apply Kd.R_drewN | apply Kd.R_drew)); exact HO358.out, by repeat (first | (with_reducible first | exact HB.out | apply below_alloc | apply pw_below_drewN | apply below_drew1) | exact HB.out)⟩
 ·rw [if_neg c3] at H
  have c3b0 : ((t356.length : Int) == 0) = false := beq_eq_false_iff_ne.mpr c3
  have c3b1 : ((t356.length : Int) != 0) = true := bne_iff_ne.mpr c3
  have c3b2 : ¬ (t356 = []) := fun h_ => c3 (by rw [h_]; rfl)
  by_cases c6 : 0 < (t356.length : Int)
  ·rw [if_pos c6] at H
   have c6b0 : decide (0 < (t356.length : Int)) = true := decide_eq_true c6
   have c6b1 : decide (0 < t356.length) = true := decide_eq_true (by omega)
   clear c6
   by_cases c7 : ((rd_T26 t356 0).f0) = 1
   ·rw [if_pos c7] at H
    have c7b0 : (((rd_T26 t356 0).f0) == 1) = true := beq_iff_eq.mpr c7
    have c7b1 : (((rd_T26 t356 0).f0) != 1) = false := bne_eq_false_iff_eq.mpr c7
    clear c7
    by_cases c8 : 1 ≤ (t356.length : Int)
    ·rw [if_pos c8] at H
     have c8b0 := eq_true c8
     have c8b1 : decide (1 ≤ (t356.length : Int)) = true := decide_eq_true c8
     clear c8
     obtain ⟨y361, hy361⟩ : ∃ y_ : List (S26), y_ = (t356.drop 1) := ⟨_, rfl⟩
     replace H : ((api_Run_64.f y361).bind fun t365 => (some ((rd_T26 t356 0).f1, t365))) = some (r1, r2) := by first | (rw [hy361]; with_reducible exact H) | (have H2_ := (Option.bind_some _ _).symm.trans H; rw [hy361]; with_reducible exact H2_) | (have H2_ := (Option.bind_some _ _).symm.trans H; with_reducible exact H2_) | with_reducible exact H | (rw [hy361]; exact H) | exact H
     have Ny361 := Aside0.mk hy361
     clear hy361
     replace H := Option.bind_eq_some_iff.mp H
     obtain ⟨t365, A90, H⟩ := H
     replace H : (some ((rd_T26 t356 0).f1, t365)) = some (r1, r2) := H
     have A9 := Aside0.mk A90
     clear A90
     simp only [Option.some.injEq, Prod.mk.injEq] at H
     obtain ⟨rfl, rfl⟩ := H
     go_enter Try.func35, Try.ntmps35
     try go_wp2_with (first | ((with_reducible refine gate_callee (f := 32) rfl ?_); refine goesL_ (some 6) rfl rfl Try.func32 (by kernel_rfl) rfl #[.slice A0 l0.length c0] rfl (by (try simp only [List.map_toArray, List.map_cons, List.map_nil]); first | done | rfl | (simp only [List.length_drop, List.length_take]; rfl)) ?_; (with_reducible refine (span_Norm.calls k (fun k_ => k_ < w.heap.size) _ _ l0 t356 _ ?side1 A2.out).mono ?_); (case side1 => exact Kd.V_mk HC0.out (Kd.F_below (Kd.C_F k26_heap HR0.out) (by repeat (first | (with_reducible first | exact HB.out | apply below_alloc | apply pw_below_drewN | apply below_drew1) | exact HB.out)))); rintro e w10 ⟨v357, rfl, ho0, hb⟩; refine ⟨_, rfl, ?_⟩; have n0_ := Aside0.mk (Kd.R_lower (Kd.R_mono (ok' := fun k_ => True) ho0 (fun _ hk_ => trivial)) (below_size (by repeat (first | (with_reducible first | exact HB.out | apply below_alloc | apply pw_below_drewN | apply below_drew1) | exact HB.out)))); have n1_ := Aside0.mk (below_step (by repeat (first | (with_reducible first | exact HB.out | apply below_alloc | apply pw_below_drewN | apply below_drew1) | exact HB.out)) hb); clear HB; have HO358 := n0_; have HB := n1_; clear n0_ n1_; (try clear hb); (try clear hb2); (try clear hk); (try clear hi); (try clear ho0); obtain ⟨Ao11, co11, eo11⟩ := Kd.R_slice HO358.out; subst eo11; have p359 : 0 ≤ (0 : Int) := (by omega); have q359 : 0 < (t356.length : Int) := of_decide_eq_true (by first | (with_reducible assumption) | assumption); obtain ⟨ad359, e359, hx359_0, hx359_1⟩ := at_T26 (Kd.R_reads' HO358.out).2.2 0 p359 q359; cases e359; have qi359 : (0 < t356.length) = True := eq_true (by omega); (try rw [show ((0 : Int)).toNat = 0 from rfl] at hx359_0); (try rw [show 0 * 2 = 0 from rfl] at hx359_0); (try rw [Addr.add_zero'] at hx359_0); (try rw [show ((0 : Int)).toNat = 0 from rfl] at hx359_1); (try rw [show 0 * 2 = 0 from rfl] at hx359_1); (try rw [Addr.add_zero'] at hx359_1); replace p359 := eq_true p359; replace q359 := eq_true q359))
     have n0_ := Aside0.mk (Kd.R_drew HO358.out)
     have n1_ := Aside0.mk (below_drew1 HB.out)
     clear HO358
     clear HB
     have HO358 := n0_
     have HB := n1_
     clear n0_ n1_
     have p360 : 0 ≤ (0 : Int) := (by omega)
     have q360 : 0 < (t356.length : Int) := of_decide_eq_true (by first | (with_reducible assumption) | assumption)
     obtain ⟨ad360, e360, hx360_0, hx360_1⟩ := at_T26 (Kd.R_reads' HO358.out).2.2 0 p360 q360
     obtain rfl : ad359 = ad360 := (by injection e360)
     have qi360 : (0 < t356.length) = True := eq_true (by omega)
     (try rw [show ((0 : Int)).toNat = 0 from rfl] at hx360_0)
     (try rw [show 0 * 2 = 0 from rfl] at hx360_0)
     (try rw [Addr.add_zero'] at hx360_0)
     (try rw [show ((0 : Int)).toNat = 0 from rfl] at hx360_1)
     (try rw [show 0 * 2 = 0 from rfl] at hx360_1)
     (try rw [Addr.add_zero'] at hx360_1)
     replace p360 := eq_true p360
     replace q360 := eq_true q360
     have q13 : (1 : Int) ≤ ((t356.length : Int) : Int) := of_decide_eq_true (by first | (with_reducible assumption) | assumption)
     obtain ⟨i013, hi013, _, hsz13, _⟩ := info_parts info26
     have hroom13 : t356.length ≤ co11 := (Kd.R_reads' HO358.out).2.1
     have hC13 : Kd.C k26 _ (some ad359) t356.length t356 := (Kd.R_reads' HO358.out).2.2
     have hcut13 := cut_from (P := Try.prog) 23 26 .i64 Try.underlying23 hi013 2 hsz13 (some ad359) t356.length co11 1 (by omega) q13
     have hr13 := Kd.C_drop (m := (1 : Int).toNat) (c := co11) hC13 (by omega) hroom13
     obtain ⟨A13, hA13⟩ : ∃ A1, A1 = (if co11 = (1 : Int).toNat then (some ad359) else ((some ad359) : Option Addr).map (·.add ((1 : Int).toNat * 2))) := ⟨_, rfl⟩
     obtain ⟨c13, hc13⟩ : ∃ c1, c1 = co11 - (1 : Int).toNat := ⟨_, rfl⟩
     have hy13 : y361.length = t356.length - (1 : Int).toNat := (by rw [Ny361.out, List.length_drop] <;> omega)
     rw [show (t356).drop (1 : Int).toNat = y361 from Ny361.out.symm] at hr13
     replace hr13 : Kd.C k26 _ A13 y361.length y361 := (by rw [hA13]; exact hr13)
     rw [← hy13, ← hA13, ← hc13] at hcut13
     have HR364 := Aside0.mk hr13
     have HC364 := Aside0.mk (show y361.length ≤ c13 from by rw [hy13, hc13]; exact Nat.sub_le_sub_right hroom13 _)
     clear hr13 hC13 hroom13 hi013 hsz13 hc13
     have KY13 := Aside0.mk hy13
     have KA13 := Aside0.mk hA13
     clear hy13 hA13
     have KL13 := Aside0.mk (show 1 ≤ t356.length from by omega)
     replace q13 := eq_true q13
     refine start_ (n := 9) (S := fun w' => w'.cell? ad359 = some (.int .i64 ((rd_T26 t356 0).f0)) ∧ w'.cell? ⟨ad359.block, ad359.off + 1, none⟩ = some (.int .i64 ((rd_T26 t356 0).f1))) (ds := []) #[false, false, false, false, false, false, false, false, false] (by kernel_rfl) rfl rfl ⟨hx360_0, hx360_1⟩ (fun hHeld => ?_); refine with_tabW span_Lead.tab4 span_Lead.bits4 (fun HT_ HW_ => ?_)
     generalize w10.drew = w12 at HO358 HB HR364 hx360_0 hx360_1 hHeld ⊢
     refine pure_ (i := 0) (N := some 18) (v := ?_) (a' := ?_) #[true, false, false, false, false, false, false, false, false] rfl rfl (any_of HT_.out (by kernel_rfl)) (fun _ _ _ h => h) (Or.inl ⟨by rfl, ?_⟩) ?_ ?_
     rotate_left
     ·intro w'
      go_simp
      with_reducible rfl
     rotate_left
     ·simp only [Act.put, List.setIfInBounds_toArray, List.set_cons_zero, List.set_cons_succ, i64_w, i32_w]
      rfl
     refine pure_ (i := 1) (N := some 19) (v := ?_) (a' := ?_) #[true, true, false, false, false, false, false, false, false] rfl rfl (any_of HT_.out (by kernel_rfl)) (fun _ _ _ h => h) (Or.inl ⟨by rfl, ?_⟩) ?_ ?_
     rotate_left
     ·intro w'
      go_simp
      with_reducible rfl
     rotate_left
     ·simp only [Act.put, List.setIfInBounds_toArray, List.set_cons_zero, List.set_cons_succ, i64_w, i32_w]
      rfl
     refine pure_ (i := 2) (N := some 20) (v := ?_) (a' := ?_) #[true, true, true, false, false, false, false, false, false] rfl rfl (any_of HT_.out (by kernel_rfl)) (fun _ _ _ h => h) (Or.inl ⟨by rfl, ?_⟩) ?_ ?_
     rotate_left
     ·intro w'
      go_simp
      with_reducible rfl
     rotate_left
     ·simp only [Act.put, List.setIfInBounds_toArray, List.set_cons_zero, List.set_cons_succ, i64_w, i32_w]
      rfl
     refine pure_ (i := 4) (N := some 22) (v := ?_) (a' := ?_) #[true, true, true, false, true, false, false, false, false] rfl rfl (any_of HT_.out (by kernel_rfl)) (fun _ _ _ h => h) (Or.inl ⟨by rfl, ?_⟩) ?_ ?_
     rotate_left
     ·intro w'
      go_simp
      with_reducible rfl
     rotate_left
     ·simp only [Act.put, List.setIfInBounds_toArray, List.set_cons_zero, List.set_cons_succ, i64_w, i32_w]
      rfl
     refine pure_ (i := 5) (N := some 23) (v := ?_) (a' := ?_) #[true, true, true, false, true, true, false, false, false] rfl rfl (any_of HT_.out (by kernel_rfl)) (fun _ _ _ h => h) (Or.inl ⟨by rfl, ?_⟩) ?_ ?_
     rotate_left
     ·intro w'
      go_simp
      with_reducible rfl
     rotate_left
     ·simp only [Act.put, List.setIfInBounds_toArray, List.set_cons_zero, List.set_cons_succ, i64_w, i32_w]
      rfl
     refine take_ (i := 3) (N := some 21) (v := ?_) (a' := ?_) #[true, true, true, true, true, true, false, false, false] rfl rfl (take_ofW HT_.out HW_.out (by kernel_rfl)) (fun _ _ _ h => h) (Or.inl ⟨by rfl, ?_⟩) hHeld ?_ ?_
     rotate_left
     ·rintro w' ⟨s0, s1⟩
      go_simp
      with_reducible rfl
     rotate_left
     ·simp only [Act.put, List.setIfInBounds_toArray, List.set_cons_zero, List.set_cons_succ, i64_w, i32_w]
      rfl
     refine one_ (i := 6) (N := some 24) #[true, true, true, true, true, true, true, false, false] rfl rfl (one_of HT_.out (by kernel_rfl)) (by decide) (fun K hK => ?_)
     refine goes_ Try.func64 (by kernel_rfl) rfl #[.slice A13 y361.length c13] (by rfl) rfl rfl (by (try simp only [List.map_toArray, List.map_cons, List.map_nil]); first | done | rfl | (simp only [List.length_drop, List.length_take]; rfl)) ?_
     with_reducible refine (api_Run_64.calls _ _ y361 t365 _ ?side1 ?side2 A9.out).mono ?_
     (case side1 => repeat (first | exact (by repeat (first | (with_reducible exact HR364.out) | (with_reducible refine Kd.C_alloc ?_ _) | (with_reducible refine Kd.C_drewN ?_ _) | (with_reducible refine Kd.C_drew ?_) | exact HR364.out)) | (with_reducible refine Kd.C_alloc ?_ _) | (with_reducible refine Kd.C_drewN ?_ _) | (with_reducible refine Kd.C_drew ?_)))
     (case side2 => exact HC364.out)
     rintro e w14 ⟨v366, rfl, ho0, hb⟩
     have HS0_ := (hb.cell (World.block_lt_of_cell? _ _ (hHeld.1))).trans (hHeld.1)
     have HS1_ := (hb.cell (World.block_lt_of_cell? _ _ (hHeld.2))).trans (hHeld.2)
     refine ⟨_, rfl, ?_⟩
     have n0_ := Aside0.mk (Kd.R_elder' (by (with_reducible repeat (first | apply Kd.R_alloc | apply Kd.R_drewN | apply Kd.R_drew)); exact HO358.out) (Kd.R_base ho0) hb)
     have n1_ := Aside0.mk (Kd.R_lower (Kd.R_new' ho0 (Kd.R_lt (by (with_reducible repeat (first | apply Kd.R_alloc | apply Kd.R_drewN | apply Kd.R_drew)); exact HO358.out))) (below_size (by repeat (first | (with_reducible first | exact HB.out | apply below_alloc | apply pw_below_drewN | apply below_drew1) | exact HB.out))))
     have n2_ := Aside0.mk (Kd.C_below (by repeat (first | (with_reducible exact HR364.out) | (with_reducible refine Kd.C_alloc ?_ _) | (with_reducible refine Kd.C_drewN ?_ _) | (with_reducible refine Kd.C_drew ?_) | exact HR364.out)) hb)
     have n3_ := Aside0.mk (below_step (by repeat (first | (with_reducible first | exact HB.out | apply below_alloc | apply pw_below_drewN | apply below_drew1) | exact HB.out)) hb)
     clear HO358
     clear HR364
     clear HB
     have HO358 := n0_
     have HO367 := n1_
     have HR364 := n2_
     have HB := n3_
     clear n0_ n1_ n2_ n3_
     (try clear hb)
     (try clear hb2)
     (try clear hk)
     (try clear hi)
     (try clear ho0)
     refine hK.out _ _ ⟨HS0_, HS1_⟩ (fun hHeld => ?_)
     clear hK K
     refine norm_ (a' := ?_) ?_ ?_
     rotate_left
     ·show Act.put _ (some 24) _ = _
      simp only [Act.put, List.setIfInBounds_toArray, List.set_cons_zero, List.set_cons_succ, i64_w, i32_w]
      rfl
     refine pure_ (i := 7) (N := some 2) (v := ?_) (a' := ?_) #[true, true, true, true, true, true, true, true, false] rfl rfl (any_of HT_.out (by kernel_rfl)) (fun _ _ _ h => h) (Or.inl ⟨by rfl, ?_⟩) ?_ ?_
     rotate_left
     ·intro w'
      go_simp
      with_reducible rfl
     rotate_left
     ·simp only [Act.put, List.setIfInBounds_toArray, List.set_cons_zero, List.set_cons_succ, i64_w, i32_w]
      rfl
     refine pure_ (i := 8) (N := some 3) (v := ?_) (a' := ?_) #[true, true, true, true, true, true, true, true, true] rfl rfl (any_of HT_.out (by kernel_rfl)) (fun _ _ _ h => h) (Or.inl ⟨by rfl, ?_⟩) ?_ ?_
     rotate_left
     ·intro w'
      go_simp
      with_reducible rfl
     rotate_left
     ·simp only [Act.put, List.setIfInBounds_toArray, List.set_cons_zero, List.set_cons_succ, i64_w, i32_w]
      rfl
     refine done_ (done_of HT_.out (by kernel_rfl)) ?_
     try go_wp2
     go_ret2
     exact ⟨_, by first | rfl | (simp [errW_none, errW_some] <;> rfl) | (simp [*, errW_none, errW_some] <;> rfl), by (with_reducible repeat (first | apply Kd.R_alloc | apply Kd.R_drewN | apply Kd.R_drew)); exact Kd.R_mono HO367.out (fun _ hk => trivial), by repeat (first | (with_reducible first | exact HB.out | apply below_alloc | apply pw_below_drewN | apply below_drew1) | exact HB.out)⟩
    ·rw [if_neg c8] at H
     exact absurd H (by simp)
   ·rw [if_neg c7] at H
    have c7b0 : (((rd_T26 t356 0).f0) == 1) = false := beq_eq_false_iff_ne.mpr c7
    have c7b1 : (((rd_T26 t356 0).f0) != 1) = true := bne_iff_ne.mpr c7
    simp only [Option.some.injEq, Prod.mk.injEq] at H
    obtain ⟨rfl, rfl⟩ := H
    go_enter Try.func35, Try.ntmps35
    go_wp2_with (first | ((with_reducible refine gate_callee (f := 32) rfl ?_); refine goesL_ (some 6) rfl rfl Try.func32 (by kernel_rfl) rfl #[.slice A0 l0.length c0] rfl (by (try simp only [List.map_toArray, List.map_cons, List.map_nil]); first | done | rfl | (simp only [List.length_drop, List.length_take]; rfl)) ?_; (with_reducible refine (span_Norm.calls k (fun k_ => k_ < w.heap.size) _ _ l0 t356 _ ?side1 A2.out).mono ?_); (case side1 => exact Kd.V_mk HC0.out (Kd.F_below (Kd.C_F k26_heap HR0.out) (by repeat (first | (with_reducible first | exact HB.out | apply below_alloc | apply pw_below_drewN | apply below_drew1) | exact HB.out)))); rintro e w15 ⟨v357, rfl, ho0, hb⟩; refine ⟨_, rfl, ?_⟩; have n0_ := Aside0.mk (Kd.R_lower (Kd.R_mono (ok' := fun k_ => True) ho0 (fun _ hk_ => trivial)) (below_size (by repeat (first | (with_reducible first | exact HB.out | apply below_alloc | apply pw_below_drewN | apply below_drew1) | exact HB.out)))); have n1_ := Aside0.mk (below_step (by repeat (first | (with_reducible first | exact HB.out | apply below_alloc | apply pw_below_drewN | apply below_drew1) | exact HB.out)) hb); clear HB; have HO358 := n0_; have HB := n1_; clear n0_ n1_; (try clear hb); (try clear hb2); (try clear hk); (try clear hi); (try clear ho0); obtain ⟨Ao16, co16, eo16⟩ := Kd.R_slice HO358.out; subst eo16; have p359 : 0 ≤ (0 : Int) := (by omega); have q359 : 0 < (t356.length : Int) := of_decide_eq_true (by first | (with_reducible assumption) | assumption); obtain ⟨ad359, e359, hx359_0, hx359_1⟩ := at_T26 (Kd.R_reads' HO358.out).2.2 0 p359 q359; cases e359; have qi359 : (0 < t356.length) = True := eq_true (by omega); (try rw [show ((0 : Int)).toNat = 0 from rfl] at hx359_0); (try rw [show 0 * 2 = 0 from rfl] at hx359_0); (try rw [Addr.add_zero'] at hx359_0); (try rw [show ((0 : Int)).toNat = 0 from rfl] at hx359_1); (try rw [show 0 * 2 = 0 from rfl] at hx359_1); (try rw [Addr.add_zero'] at hx359_1); replace p359 := eq_true p359; replace q359 := eq_true q359))
    go_ret2
    exact ⟨_, by first | rfl | (simp [errW_none, errW_some] <;> rfl) | (simp [*, errW_none, errW_some] <;> rfl), by (with_reducible repeat (first | apply Kd.R_alloc | apply Kd.R_drewN | apply Kd.R_drew)); exact HO358.out, by repeat (first | (with_reducible first | exact HB.out | apply below_alloc | apply pw_below_drewN | apply below_drew1) | exact HB.out)⟩
  ·rw [if_neg c6] at H
   exact absurd H (by simp)

end Go.Proofs.Yteldhpneegccjaa.G
