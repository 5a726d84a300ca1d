import Derived.Test.YtlmdhpfggobogaaDoorQSq5
namespace Go.Proofs.YtlmdhpfggobogaaDoor.G
open Go.RowKit Go.Proofs.YtlmdhpfggobogaaDoorW.PrintWords Go.Proofs.YtlmdhpfggobogaaDoorW.PrintLast Go.Proofs.YtlmdhpfggobogaaDoorW.PrintMore
attribute [local go_sem] max2_int min2_int max_two min_two max_three min_three max_four min_four   -- for this text's walks alone
set_option linter.unusedVariables false
set_option linter.unusedSimpArgs false
mutual
def barrowref24_skuOf.j0 : Nat → ByteArray → Bool → Option (ByteArray × Bool)
 | 0, _, _ => none
 | k + 1, x0, x27 => if x27 = true then (some ((⟨#[]⟩ : ByteArray), false)) else (if 1 ≤ (wrap64 ((x0.size : Int) - 1)) then (if (wrap64 ((x0.size : Int) - 1)) ≤ (x0.size : Int) then (barrowref24_skuOf.l0 k ([] : List Int) (x0.extract 1 ((wrap64 ((x0.size : Int) - 1)) : Int).toNat) 0) else (none)) else (none))
def barrowref24_skuOf.l0 : Nat → List Int → ByteArray → Int → Option (ByteArray × Bool)
 | 0, _, _, _ => none
 | k + 1, x4, x5, x6 => if x6 < (x5.size : Int) then (if 0 ≤ x6 then ((barrowref24_plainByte.f (bt x5 x6)).bind fun t169 => (if t169 = true then (if x4.length < 140737488355328 then (barrowref24_skuOf.l0 k (x4 ++ [bt x5 x6]) x5 (wrap64 (x6 + 1))) else (none)) else (if (bt x5 x6) = 92 then (if (wrap64 (x6 + 3)) ≥ (x5.size : Int) then (barrowref24_skuOf.j2 k x4 x5 x6 true) else (if 0 ≤ (wrap64 (x6 + 1)) then (if (wrap64 (x6 + 1)) < (x5.size : Int) then (barrowref24_skuOf.j2 k x4 x5 x6 ((bt x5 (wrap64 (x6 + 1))) != 120)) else (none)) else (none))) else (barrowref24_skuOf.j2 k x4 x5 x6 true)))) else (none)) else (some (strOfNums x4, true))
def barrowref24_skuOf.j2 : Nat → List Int → ByteArray → Int → Bool → Option (ByteArray × Bool)
 | 0, _, _, _, _ => none
 | k + 1, x4, x5, x6, x66 => if x66 = true then (some ((⟨#[]⟩ : ByteArray), false)) else (if 0 ≤ (wrap64 (x6 + 2)) then (if (wrap64 (x6 + 2)) < (x5.size : Int) then ((barrowref24_digit.f k (bt x5 (wrap64 (x6 + 2)))).bind fun t173 => (if 0 ≤ (wrap64 (x6 + 3)) then (if (wrap64 (x6 + 3)) < (x5.size : Int) then ((barrowref24_digit.f k (bt x5 (wrap64 (x6 + 3)))).bind fun t174 => (if t173 < 0 then (some ((⟨#[]⟩ : ByteArray), false)) else (if t174 < 0 then (some ((⟨#[]⟩ : ByteArray), false)) else (if x4.length < 140737488355328 then (barrowref24_skuOf.l0 k (x4 ++ [(wrap64 ((wrap64 (16 * t173)) + t174)) % 256]) x5 (wrap64 ((wrap64 (x6 + 3)) + 1))) else (none))))) else (none)) else (none))) else (none)) else (none))
end
def barrowref24_skuOf.f (k : Nat) (a0 : ByteArray) : Option (ByteArray × Bool) := (barrowref02_Good.f k a0).bind fun t168 => (if t168 = true then (some (a0, true)) else (if (a0.size : Int) < 2 then (barrowref24_skuOf.j0 k a0 true) else (if 0 < (a0.size : Int) then (if (bt a0 0) = 34 then (if 0 ≤ (wrap64 ((a0.size : Int) - 1)) then (if (wrap64 ((a0.size : Int) - 1)) < (a0.size : Int) then (barrowref24_skuOf.j0 k a0 ((bt a0 (wrap64 ((a0.size : Int) - 1))) != 34)) else (none)) else (none)) else (barrowref24_skuOf.j0 k a0 true)) else (none))))
set_option maxHeartbeats 8000000 in
set_option maxRecDepth 100000 in
theorem barrowref24_skuOf.calls (k : Nat) (a0 : ByteArray) (r1 : ByteArray) (r2 : Bool) (w : World) (h : barrowref24_skuOf.f k a0 = some (r1, r2)) :
  Calls Tryd.prog 61 #[.string a0] w fun e w' => e = .returned (.tuple #[.string r1, .bool r2]) ∧ Below w.heap.size w w' := by
 have HB := Aside0.mk (Below.refl w.heap.size w)
 have H : ((barrowref02_Good.f k a0).bind fun t168 => (if t168 = true then (some (a0, true)) else (if (a0.size : Int) < 2 then (barrowref24_skuOf.j0 k a0 true) else (if 0 < (a0.size : Int) then (if (bt a0 0) = 34 then (if 0 ≤ (wrap64 ((a0.size : Int) - 1)) then (if (wrap64 ((a0.size : Int) - 1)) < (a0.size : Int) then (barrowref24_skuOf.j0 k a0 ((bt a0 (wrap64 ((a0.size : Int) - 1))) != 34)) else (none)) else (none)) else (barrowref24_skuOf.j0 k a0 true)) else (none))))) = some (r1, r2) := h
 clear h
 replace H := Option.bind_eq_some_iff.mp H
 obtain ⟨t168, A20, H⟩ := H
 replace H : (if t168 = true then (some (a0, true)) else (if (a0.size : Int) < 2 then (barrowref24_skuOf.j0 k a0 true) else (if 0 < (a0.size : Int) then (if (bt a0 0) = 34 then (if 0 ≤ (wrap64 ((a0.size : Int) - 1)) then (if (wrap64 ((a0.size : Int) - 1)) < (a0.size : Int) then (barrowref24_skuOf.j0 k a0 ((bt a0 (wrap64 ((a0.size : Int) - 1))) != 34)) else (none)) else (none)) else (barrowref24_skuOf.j0 k a0 true)) else (none)))) = some (r1, r2) := H
 have A2 := Aside0.mk A20
 clear A20
 by_cases c3 : t168 = true
 ·subst c3
  have H1 : (some (a0, true)) = some (r1, r2) := by rw [if_pos rfl] at H; exact H
  clear H
  have H := H1
  clear H1
  simp only [Option.some.injEq, Prod.mk.injEq] at H
  obtain ⟨rfl, rfl⟩ := H
  go_enter Tryd.func61, Tryd.ntmps61
  go_wp2_with (first | ((with_reducible refine gate_callee (f := 68) rfl ?_); refine goesL_ (some 10) rfl rfl Tryd.func68 (by kernel_rfl) rfl #[.string a0] rfl (by (try simp only [List.map_toArray, List.map_cons, List.map_nil]); first | done | rfl | (simp only [List.length_drop, List.length_take]; rfl)) ?_; (with_reducible refine (barrowref02_Good.calls k a0 true _ A2.out).mono ?_); rintro e w' ⟨rfl, ⟨nd, rfl⟩⟩; refine ⟨_, rfl, ?_⟩))
  go_ret2
  exact ⟨by first | rfl | (simp [errW_none, errW_some] <;> rfl) | (simp [*, errW_none, errW_some] <;> rfl), by repeat (first | (with_reducible first | exact HB.out | apply below_alloc | apply pw_below_drewN | apply below_drew1) | exact HB.out)⟩
 ·replace c3 := Bool.eq_false_iff.mpr c3
  subst c3
  have H1 : (if (a0.size : Int) < 2 then (barrowref24_skuOf.j0 k a0 true) else (if 0 < (a0.size : Int) then (if (bt a0 0) = 34 then (if 0 ≤ (wrap64 ((a0.size : Int) - 1)) then (if (wrap64 ((a0.size : Int) - 1)) < (a0.size : Int) then (barrowref24_skuOf.j0 k a0 ((bt a0 (wrap64 ((a0.size : Int) - 1))) != 34)) else (none)) else (none)) else (barrowref24_skuOf.j0 k a0 true)) else (none))) = some (r1, r2) := by rw [if_neg (show ¬ (false = true) by decide)] at H; exact H
  clear H
  have H := H1
  clear H1
  have HC4 := Aside0.mk H
  clear H
  go_enter Tryd.func61, Tryd.ntmps61
  go_upto_region 3 with (first | ((with_reducible refine gate_callee (f := 68) rfl ?_); refine goesL_ (some 10) rfl rfl Tryd.func68 (by kernel_rfl) rfl #[.string a0] rfl (by (try simp only [List.map_toArray, List.map_cons, List.map_nil]); first | done | rfl | (simp only [List.length_drop, List.length_take]; rfl)) ?_; (with_reducible refine (barrowref02_Good.calls k a0 false _ A2.out).mono ?_); rintro e w' ⟨rfl, ⟨nd, rfl⟩⟩; refine ⟨_, rfl, ?_⟩))
  (try simp only [Act.put, List.setIfInBounds_toArray, List.set_cons_zero, List.set_cons_succ])
  go_cut [27] (fun v27 wc => ∃ (kq : Nat) (x27_3 : Bool), v27 = .bool x27_3 ∧ Aside0 (barrowref24_skuOf.j0 kq a0 x27_3 = some (r1, r2)) ∧ Aside0 (kq ≤ k) ∧ Aside0 (Below w.heap.size w wc))
  case first =>
   have H := HC4.out
   clear HC4
   by_cases c5 : (a0.size : Int) < 2
   ·rw [if_pos c5] at H
    have c5b0 : decide ((a0.size : Int) < 2) = true := decide_eq_true c5
    have c5b1 : decide (a0.size < 2) = true := decide_eq_true (by omega)
    clear c5
    (first | rw [c5b0] | (simp only [i64_w, i32_w]; rw [c5b0]) | skip)
    have H' := Aside0.mk H
    clear H
    go_wp2
    go_meet
    case rel => exact ⟨_, (true), (by first | rfl | (simp; done) | (simp [*]; done)), H', ⟨by first | omega | exact Nat.le_refl _⟩, ⟨by repeat (first | (with_reducible first | exact HB.out | apply below_alloc | apply pw_below_drewN | apply below_drew1) | exact HB.out)⟩⟩
   ·rw [if_neg c5] at H
    have c5b0 : decide ((a0.size : Int) < 2) = false := decide_eq_false c5
    have c5b1 : decide (a0.size < 2) = false := decide_eq_false (by omega)
    clear c5
    (first | rw [c5b0] | (simp only [i64_w, i32_w]; rw [c5b0]) | skip)
    by_cases c6 : 0 < (a0.size : Int)
    ·rw [if_pos c6] at H
     have c6b0 : decide (0 < (a0.size : Int)) = true := decide_eq_true c6
     have c6b1 : decide (0 < a0.size) = true := decide_eq_true (by omega)
     clear c6
     by_cases c8 : (bt a0 0) = 34
     ·rw [if_pos c8] at H
      have c8b0 : ((bt a0 0) == 34) = true := beq_iff_eq.mpr c8
      have c8b1 : ((bt a0 0) != 34) = false := bne_eq_false_iff_eq.mpr c8
      clear c8
      obtain ⟨ji9, hji9⟩ : ∃ j_ : Int, (wrap64 ((a0.size : Int) - 1)) = j_ := ⟨_, rfl⟩
      replace H : (if 0 ≤ (ji9) then (if (ji9) < (a0.size : Int) then (barrowref24_skuOf.j0 k a0 ((bt a0 (ji9)) != 34)) else (none)) else (none)) = some (r1, r2) := by first | (rw [hji9] at H; exact H) | (simp only [hji9] at H ⊢; exact H)
      have hji9w : (IntKind.i64.wrap ((a0.size : Int) - 1)) = ji9 := (i64_w _).trans hji9
      by_cases c10 : 0 ≤ (ji9)
      ·rw [if_pos c10] at H
       have c10b0 : decide (0 ≤ (ji9)) = true := decide_eq_true c10
       clear c10
       by_cases c11 : (ji9) < (a0.size : Int)
       ·rw [if_pos c11] at H
        have c11b0 : decide ((ji9) < (a0.size : Int)) = true := decide_eq_true c11
        clear c11
        have H' := Aside0.mk H
        clear H
        have p7 : 0 ≤ (0 : Int) := (by omega)
        have q7 : 0 < a0.size := (by have : (0 : Int) < (a0.size : Int) := of_decide_eq_true (by first | (with_reducible assumption) | assumption); omega)
        have hx7 : ∀ h : 0 < a0.size, ((a0[0]'h).toNat : Int) = bt a0 0 := bt_at a0 0
        clear p7
        have qi7 : (0 < (a0.size : Int)) = True := eq_true (of_decide_eq_true (by first | (with_reducible assumption) | assumption))
        replace q7 := eq_true q7
        have p12 : 0 ≤ ((ji9) : Int) := of_decide_eq_true (by first | (with_reducible assumption) | assumption)
        have q12 : (ji9) < (a0.size : Int) := of_decide_eq_true (by first | (with_reducible assumption) | assumption)
        have hx12 := bt_at a0 (ji9)
        replace p12 := eq_true p12
        replace q12 := eq_true q12
        go_wp2
        go_meet
        case rel => exact ⟨_, (((bt a0 (ji9)) != 34)), (by first | rfl | (simp; done) | (simp only [← hji9] <;> (first | rfl | simp)) | (simp [*]; done)), H', ⟨by first | omega | exact Nat.le_refl _⟩, ⟨by repeat (first | (with_reducible first | exact HB.out | apply below_alloc | apply pw_below_drewN | apply below_drew1) | exact HB.out)⟩⟩
       ·rw [if_neg c11] at H
        exact absurd H (by simp)
      ·rw [if_neg c10] at H
       exact absurd H (by simp)
     ·rw [if_neg c8] at H
      have c8b0 : ((bt a0 0) == 34) = false := beq_eq_false_iff_ne.mpr c8
      have c8b1 : ((bt a0 0) != 34) = true := bne_iff_ne.mpr c8
      have H' := Aside0.mk H
      clear H
      have p7 : 0 ≤ (0 : Int) := (by omega)
      have q7 : 0 < a0.size := (by have : (0 : Int) < (a0.size : Int) := of_decide_eq_true (by first | (with_reducible assumption) | assumption); omega)
      have hx7 : ∀ h : 0 < a0.size, ((a0[0]'h).toNat : Int) = bt a0 0 := bt_at a0 0
      clear p7
      have qi7 : (0 < (a0.size : Int)) = True := eq_true (of_decide_eq_true (by first | (with_reducible assumption) | assumption))
      replace q7 := eq_true q7
      go_wp2
      go_meet
      case rel => exact ⟨_, (true), (by first | rfl | (simp; done) | (simp [*]; done)), H', ⟨by first | omega | exact Nat.le_refl _⟩, ⟨by repeat (first | (with_reducible first | exact HB.out | apply below_alloc | apply pw_below_drewN | apply below_drew1) | exact HB.out)⟩⟩
    ·rw [if_neg c6] at H
     exact absurd H (by simp)
  case rest =>
   clear HC4
   try clear c1
   try clear p1
   try clear q1
   try clear hx1
   try clear p2
   try clear c3
   try clear c5
   try clear c5b0
   try clear c5b1
   try clear c6
   try clear c6b0
   try clear c6b1
   try clear p6
   try clear p7
   try clear q7
   try clear hx7
   try clear qi7
   try clear c8
   try clear c8b0
   try clear c8b1
   try clear c10
   try clear c10b0
   try clear c11
   try clear c11b0
   try clear p12
   try clear q12
   try clear hx12
   try clear p12
   try clear p7
   try clear q12
   try clear q7
   obtain ⟨kq, x27_3, rfl, HA, HJ3, HB⟩ := hcut
   cases kq with
   | zero => exact absurd HA.out (by simp [barrowref24_skuOf.j0])
   | succ kj3 =>
    have H := HA.out
    clear HA
    simp only [barrowref24_skuOf.j0] at H
    by_cases c13 : x27_3 = true
    ·subst c13
     have H1 : (some ((⟨#[]⟩ : ByteArray), false)) = some (r1, r2) := by rw [if_pos rfl] at H; exact H
     clear H
     have H := H1
     clear H1
     simp only [Option.some.injEq, Prod.mk.injEq] at H
     obtain ⟨rfl, rfl⟩ := H
     go_wp2
     go_ret2
     exact ⟨by first | rfl | (simp [errW_none, errW_some] <;> rfl) | (simp [*, errW_none, errW_some] <;> rfl), by repeat (first | (with_reducible first | exact HB.out | apply below_alloc | apply pw_below_drewN | apply below_drew1) | exact HB.out)⟩
    ·replace c13 := Bool.eq_false_iff.mpr c13
     subst c13
     have H1 : (if 1 ≤ (wrap64 ((a0.size : Int) - 1)) then (if (wrap64 ((a0.size : Int) - 1)) ≤ (a0.size : Int) then (barrowref24_skuOf.l0 kj3 ([] : List Int) (a0.extract 1 ((wrap64 ((a0.size : Int) - 1)) : Int).toNat) 0) else (none)) else (none)) = some (r1, r2) := by rw [if_neg (show ¬ (false = true) by decide)] at H; exact H
     clear H
     have H := H1
     clear H1
     by_cases c14 : 1 ≤ (wrap64 ((a0.size : Int) - 1))
     ·rw [if_pos c14] at H
      have c14b0 := eq_true c14
      have c14b1 : decide (1 ≤ (wrap64 ((a0.size : Int) - 1))) = true := decide_eq_true c14
      clear c14
      by_cases c15 : (wrap64 ((a0.size : Int) - 1)) ≤ (a0.size : Int)
      ·rw [if_pos c15] at H
       have c15b0 := eq_true c15
       have c15b1 : decide ((wrap64 ((a0.size : Int) - 1)) ≤ (a0.size : Int)) = true := decide_eq_true c15
       clear c15
       have H' := Aside0.mk H
       clear H
       go_wp2
       obtain ⟨s5_, hs5_⟩ : ∃ s_, (a0.extract 1 ((wrap64 ((a0.size : Int) - 1)) : Int).toNat) = s_ := ⟨_, rfl⟩
       have H'5_ := H'.out
       rw [hs5_] at H'5_
       clear H'
       have H' := Aside0.mk H'5_
       clear H'5_
       rw [hs5_]
       clear hs5_
       go_loopg [4, 6] kj3 (fun kq v4 v6 w' => ∃ (x4_2 : List Int) (x6_2 : Int), v6 = .int .i64 x6_2 ∧ Aside0 (barrowref24_skuOf.l0 kq x4_2 s5_ x6_2 = some (r1, r2)) ∧ Aside0 (kq ≤ kj3) ∧ Aside0 (Kd.R (Kd.int .u8) 5 w' w.heap.size (fun _ => True) v4 x4_2) ∧ Aside0 (Below w.heap.size w w'))
       case atStart => exact ⟨(([] : List Int)), (0), (by first | rfl | (simp; done) | (simp [*]; done)), H', ⟨Nat.le_refl _⟩, ⟨by first | exact Kd.R_nil _ _ _ _ _ | exact Kd.N_nil _ _ _ _ _ | exact Kd.V_nil _ _ _ _ _ | exact Kd.Q_nil _ _ _ _ _ | exact Kd.S_nil _ _ _ _ _⟩, ⟨by repeat (first | (with_reducible first | exact HB.out | apply below_alloc | apply pw_below_drewN | apply below_drew1) | exact HB.out)⟩⟩
       case round =>
        clear H'
        try clear c1
        try clear p1
        try clear q1
        try clear hx1
        try clear p2
        try clear c3
        try clear c5
        try clear c5b0
        try clear c5b1
        try clear c6
        try clear c6b0
        try clear c6b1
        try clear p6
        try clear p7
        try clear q7
        try clear hx7
        try clear qi7
        try clear c8
        try clear c8b0
        try clear c8b1
        try clear c10
        try clear c10b0
        try clear c11
        try clear c11b0
        try clear p12
        try clear q12
        try clear hx12
        try clear c13
        try clear c14
        try clear c14b0
        try clear c14b1
        try clear c15
        try clear c15b0
        try clear c15b1
        try clear p1
        try clear p12
        try clear p2
        try clear p6
        try clear p7
        try clear q1
        try clear q12
        try clear q7
        obtain ⟨x4_2, x6_2, rfl, HA, HK2, HO_4, HB⟩ := hrel
        cases gk with
        | zero => exact absurd HA.out (by simp [barrowref24_skuOf.l0])
        | succ k2 =>
         have H := HA.out
         clear HA
         simp only [barrowref24_skuOf.l0] at H
         by_cases c16 : x6_2 < (s5_.size : Int)
         ·rw [if_pos c16] at H
          have c16b0 : decide (x6_2 < (s5_.size : Int)) = true := decide_eq_true c16
          clear c16
          by_cases c17 : 0 ≤ x6_2
          ·rw [if_pos c17] at H
           have c17b0 : decide (0 ≤ x6_2) = true := decide_eq_true c17
           clear c17
           replace H := Option.bind_eq_some_iff.mp H
           obtain ⟨t169, A190, H⟩ := H
           replace H : (if t169 = true then (if x4_2.length < 140737488355328 then (barrowref24_skuOf.l0 k2 (x4_2 ++ [bt s5_ x6_2]) s5_ (wrap64 (x6_2 + 1))) else (none)) else (if (bt s5_ x6_2) = 92 then (if (wrap64 (x6_2 + 3)) ≥ (s5_.size : Int) then (barrowref24_skuOf.j2 k2 x4_2 s5_ x6_2 true) else (if 0 ≤ (wrap64 (x6_2 + 1)) then (if (wrap64 (x6_2 + 1)) < (s5_.size : Int) then (barrowref24_skuOf.j2 k2 x4_2 s5_ x6_2 ((bt s5_ (wrap64 (x6_2 + 1))) != 120)) else (none)) else (none))) else (barrowref24_skuOf.j2 k2 x4_2 s5_ x6_2 true))) = some (r1, r2) := H
           have A19 := Aside0.mk A190
           clear A190
           by_cases c20 : t169 = true
           ·subst c20
            have H1 : (if x4_2.length < 140737488355328 then (barrowref24_skuOf.l0 k2 (x4_2 ++ [bt s5_ x6_2]) s5_ (wrap64 (x6_2 + 1))) else (none)) = some (r1, r2) := by rw [if_pos rfl] at H; exact H
            clear H
            have H := H1
            clear H1
            by_cases c22 : x4_2.length < 140737488355328
            ·rw [if_pos c22] at H
             have LMc22 := Aside0.mk c22
             clear c22
             obtain ⟨y170, hy170⟩ : ∃ y_ : List Int, y_ = (x4_2 ++ [bt s5_ x6_2]) := ⟨_, rfl⟩
             replace H : (barrowref24_skuOf.l0 k2 y170 s5_ (wrap64 (x6_2 + 1))) = some (r1, r2) := by first | (rw [hy170]; with_reducible exact H) | (have H2_ := (Option.bind_some _ _).symm.trans H; rw [hy170]; with_reducible exact H2_) | (have H2_ := (Option.bind_some _ _).symm.trans H; with_reducible exact H2_) | with_reducible exact H | (rw [hy170]; exact H) | exact H
             have Ny170 := Aside0.mk hy170
             clear hy170
             have H' := Aside0.mk H
             clear H
             have p18 : 0 ≤ (x6_2 : Int) := of_decide_eq_true (by first | (with_reducible assumption) | assumption)
             have q18 : x6_2 < (s5_.size : Int) := of_decide_eq_true (by first | (with_reducible assumption) | assumption)
             have hx18 := bt_at s5_ x6_2
             replace p18 := eq_true p18
             replace q18 := eq_true q18
             go_wp2_with (first | ((with_reducible refine gate_callee (f := 69) rfl ?_); refine goesL_ (some 42) rfl rfl Tryd.func69 (by kernel_rfl) rfl #[.int .u8 (bt s5_ x6_2)] rfl (by (try simp only [List.map_toArray, List.map_cons, List.map_nil]); first | done | rfl | (simp only [List.length_drop, List.length_take]; rfl)) ?_; (with_reducible refine (barrowref24_plainByte.calls (bt s5_ x6_2) true _ A19.out).mono ?_); rintro e w' ⟨rfl, ⟨nd, rfl⟩⟩; refine ⟨_, rfl, ?_⟩; have p21 : 0 ≤ (x6_2 : Int) := of_decide_eq_true (by first | (with_reducible assumption) | assumption); have q21 : x6_2 < (s5_.size : Int) := of_decide_eq_true (by first | (with_reducible assumption) | assumption); have hx21 := bt_at s5_ x6_2; replace p21 := eq_true p21; replace q21 := eq_true q21) | ((with_reducible refine gate_builtin (b := .append) (xs := #[.tmp 43, .tmp 47]) rfl ?_); (try (refine gate_guard (by rfl) ?_; dsimp only)); at_builtin; refine Kd.R_append (Kd.int .u8) (w0 := w) w.heap.size rfl (.tmp 43) (.tmp 47) 48 5 (.int .u8 0) 1 rfl Tryd.underlying48 info5 rfl (by decide) (by omega) u4 x4_2 (bt s5_ x6_2) [.int .u8 (bt s5_ x6_2)] (fun _ => True) (fun _ => False) rfl rfl ?aP (fun _ hk => hk.elim) ?aF ?aO ?aB ?aS ?aL ?_; (case aP => exact rfl); (case aB => exact (by repeat (first | (with_reducible first | exact HB.out | apply below_alloc | apply pw_below_drewN | apply below_drew1) | exact HB.out))); (case aF => exact (fun _ _ => trivial)); (case aO => exact (by (with_reducible repeat (first | apply Kd.R_alloc | apply Kd.R_drewN | apply Kd.R_drew)); exact HO_4.out)); (case aS => exact (below_size (by repeat (first | (with_reducible first | exact HB.out | apply below_alloc | apply pw_below_drewN | apply below_drew1) | exact HB.out)))); (case aL => have := LMc22.out; omega); intro v171 w23 ho hb hg hat; rw [← Ny170.out] at ho; have n0_ := Aside0.mk (hb); have n1_ := Aside0.mk (ho); clear HB; clear HO_4; have HB := n0_; have HO172 := n1_; clear n0_ n1_; clear ho hb hg hat))
             go_roundg k2
             case measure => have := HJ3.out; have := HK2.out; omega
             case rel => exact ⟨(y170), (wrap64 (x6_2 + 1)), (by first | rfl | (simp; done) | (simp [*]; done)), H', ⟨by have := HJ3.out; have := HK2.out; omega⟩, ⟨by (with_reducible repeat (first | apply Kd.R_alloc | apply Kd.R_drewN | apply Kd.R_drew)); exact HO172.out⟩, ⟨by repeat (first | (with_reducible first | exact HB.out | apply below_alloc | apply pw_below_drewN | apply below_drew1) | exact HB.out)⟩⟩
            ·rw [if_neg c22] at H
             exact absurd H (by simp)
           ·replace c20 := Bool.eq_false_iff.mpr c20
            subst c20
            have H1 : (if (bt s5_ x6_2) = 92 then (if (wrap64 (x6_2 + 3)) ≥ (s5_.size : Int) then (barrowref24_skuOf.j2 k2 x4_2 s5_ x6_2 true) else (if 0 ≤ (wrap64 (x6_2 + 1)) then (if (wrap64 (x6_2 + 1)) < (s5_.size : Int) then (barrowref24_skuOf.j2 k2 x4_2 s5_ x6_2 ((bt s5_ (wrap64 (x6_2 + 1))) != 120)) else (none)) else (none))) else (barrowref24_skuOf.j2 k2 x4_2 s5_ x6_2 true)) = some (r1, r2) := by rw [if_neg (show ¬ (false = true) by decide)] at H; exact H
            clear H
            have H := H1
            clear H1
            have HC24 := Aside0.mk H
            clear H
            have p18 : 0 ≤ (x6_2 : Int) := of_decide_eq_true (by first | (with_reducible assumption) | assumption)
            have q18 : x6_2 < (s5_.size : Int) := of_decide_eq_true (by first | (with_reducible assumption) | assumption)
            have hx18 := bt_at s5_ x6_2
            replace p18 := eq_true p18
            replace q18 := eq_true q18
            go_upto_region 12 with (first | ((with_reducible refine gate_callee (f := 69) rfl ?_); refine goesL_ (some 42) rfl rfl Tryd.func69 (by kernel_rfl) rfl #[.int .u8 (bt s5_ x6_2)] rfl (by (try simp only [List.map_toArray, List.map_cons, List.map_nil]); first | done | rfl | (simp only [List.length_drop, List.length_take]; rfl)) ?_; (with_reducible refine (barrowref24_plainByte.calls (bt s5_ x6_2) false _ A19.out).mono ?_); rintro e w' ⟨rfl, ⟨nd, rfl⟩⟩; refine ⟨_, rfl, ?_⟩))
            (try simp only [Act.put, List.setIfInBounds_toArray, List.set_cons_zero, List.set_cons_succ])
            go_cut [66] (fun v66 wc => ∃ (kq : Nat) (x66_23 : Bool), v66 = .bool x66_23 ∧ Aside0 (barrowref24_skuOf.j2 kq x4_2 s5_ x6_2 x66_23 = some (r1, r2)) ∧ Aside0 (kq ≤ k2) ∧ Aside0 (Kd.R (Kd.int .u8) 5 wc w.heap.size (fun _ => True) u4 x4_2) ∧ Aside0 (Below w.heap.size w wc))
            case first =>
             have H := HC24.out
             clear HC24
             by_cases c26 : (bt s5_ x6_2) = 92
             ·rw [if_pos c26] at H
              have c26b0 : ((bt s5_ x6_2) == 92) = true := beq_iff_eq.mpr c26
              have c26b1 : ((bt s5_ x6_2) != 92) = false := bne_eq_false_iff_eq.mpr c26
              clear c26
              (first | rw [c26b0] | (simp only [i64_w, i32_w]; rw [c26b0]) | skip)
              by_cases c27 : (wrap64 (x6_2 + 3)) ≥ (s5_.size : Int)
              ·rw [if_pos c27] at H
               have c27b0 : decide ((s5_.size : Int) ≤ (wrap64 (x6_2 + 3))) = true := decide_eq_true c27
               clear c27
               have H' := Aside0.mk H
               clear H
               have p25 : 0 ≤ (x6_2 : Int) := of_decide_eq_true (by first | (with_reducible assumption) | assumption)
               have q25 : x6_2 < (s5_.size : Int) := of_decide_eq_true (by first | (with_reducible assumption) | assumption)
               have hx25 := bt_at s5_ x6_2
               replace p25 := eq_true p25
               replace q25 := eq_true q25
               go_wp2
               go_meet
               case rel => exact ⟨_, (true), (by first | rfl | (simp; done) | (simp [*]; done)), H', ⟨by have := HJ3.out; have := HK2.out; first | omega | exact Nat.le_refl _⟩, ⟨by (with_reducible repeat (first | apply Kd.R_alloc | apply Kd.R_drewN | apply Kd.R_drew)); exact HO_4.out⟩, ⟨by repeat (first | (with_reducible first | exact HB.out | apply below_alloc | apply pw_below_drewN | apply below_drew1) | exact HB.out)⟩⟩
              ·rw [if_neg c27] at H
               have c27b0 : decide ((s5_.size : Int) ≤ (wrap64 (x6_2 + 3))) = false := decide_eq_false c27
               clear c27
               obtain ⟨ji28, hji28⟩ : ∃ j_ : Int, (wrap64 (x6_2 + 1)) = j_ := ⟨_, rfl⟩
               replace H : (if 0 ≤ (ji28) then (if (ji28) < (s5_.size : Int) then (barrowref24_skuOf.j2 k2 x4_2 s5_ x6_2 ((bt s5_ (ji28)) != 120)) else (none)) else (none)) = some (r1, r2) := by first | (rw [hji28] at H; exact H) | (simp only [hji28] at H ⊢; exact H)
               have hji28w : (IntKind.i64.wrap (x6_2 + 1)) = ji28 := (i64_w _).trans hji28
               by_cases c29 : 0 ≤ (ji28)
               ·rw [if_pos c29] at H
                have c29b0 : decide (0 ≤ (ji28)) = true := decide_eq_true c29
                clear c29
                by_cases c30 : (ji28) < (s5_.size : Int)
                ·rw [if_pos c30] at H
                 have c30b0 : decide ((ji28) < (s5_.size : Int)) = true := decide_eq_true c30
                 clear c30
                 have H' := Aside0.mk H
                 clear H
                 have p25 : 0 ≤ (x6_2 : Int) := of_decide_eq_true (by first | (with_reducible assumption) | assumption)
                 have q25 : x6_2 < (s5_.size : Int) := of_decide_eq_true (by first | (with_reducible assumption) | assumption)
                 have hx25 := bt_at s5_ x6_2
                 replace p25 := eq_true p25
                 replace q25 := eq_true q25
                 have p31 : 0 ≤ ((ji28) : Int) := of_decide_eq_true (by first | (with_reducible assumption) | assumption)
                 have q31 : (ji28) < (s5_.size : Int) := of_decide_eq_true (by first | (with_reducible assumption) | assumption)
                 have hx31 := bt_at s5_ (ji28)
                 replace p31 := eq_true p31
                 replace q31 := eq_true q31
                 go_wp2
                 go_meet
                 case rel => exact ⟨_, (((bt s5_ (ji28)) != 120)), (by first | rfl | (simp; done) | (simp only [← hji28] <;> (first | rfl | simp)) | (simp [*]; done)), H', ⟨by have := HJ3.out; have := HK2.out; first | omega | exact Nat.le_refl _⟩, ⟨by (with_reducible repeat (first | apply Kd.R_alloc | apply Kd.R_drewN | apply Kd.R_drew)); exact HO_4.out⟩, ⟨by repeat (first | (with_reducible first | exact HB.out | apply below_alloc | apply pw_below_drewN | apply below_drew1) | exact HB.out)⟩⟩
                ·rw [if_neg c30] at H
                 exact absurd H (by simp)
               ·rw [if_neg c29] at H
                exact absurd H (by simp)
             ·rw [if_neg c26] at H
              have c26b0 : ((bt s5_ x6_2) == 92) = false := beq_eq_false_iff_ne.mpr c26
              have c26b1 : ((bt s5_ x6_2) != 92) = true := bne_iff_ne.mpr c26
              (first | rw [c26b0] | (simp only [i64_w, i32_w]; rw [c26b0]) | skip)
              have H' := Aside0.mk H
              clear H
              have p25 : 0 ≤ (x6_2 : Int) := of_decide_eq_true (by first | (with_reducible assumption) | assumption)
              have q25 : x6_2 < (s5_.size : Int) := of_decide_eq_true (by first | (with_reducible assumption) | assumption)
              have hx25 := bt_at s5_ x6_2
              replace p25 := eq_true p25
              replace q25 := eq_true q25
              go_wp2
              go_meet
              case rel => exact ⟨_, (true), (by first | rfl | (simp; done) | (simp [*]; done)), H', ⟨by have := HJ3.out; have := HK2.out; first | omega | exact Nat.le_refl _⟩, ⟨by (with_reducible repeat (first | apply Kd.R_alloc | apply Kd.R_drewN | apply Kd.R_drew)); exact HO_4.out⟩, ⟨by repeat (first | (with_reducible first | exact HB.out | apply below_alloc | apply pw_below_drewN | apply below_drew1) | exact HB.out)⟩⟩
            case rest =>
             clear HC24
             try clear c1
             try clear p1
             try clear q1
             try clear hx1
             try clear c2
             try clear p2
             try clear q2
             try clear hx2
             try clear c3
             try clear p3
             try clear q3
             try clear hx3
             try clear c5
             try clear c5b0
             try clear c5b1
             try clear c6
             try clear c6b0
             try clear c6b1
             try clear p6
             try clear p7
             try clear q7
             try clear hx7
             try clear qi7
             try clear c8
             try clear c8b0
             try clear c8b1
             try clear c10
             try clear c10b0
             try clear c11
             try clear c11b0
             try clear p12
             try clear q12
             try clear hx12
             try clear c13
             try clear c14
             try clear c14b0
             try clear c14b1
             try clear c15
             try clear c15b0
             try clear c15b1
             try clear c16
             try clear c16b0
             try clear c17
             try clear c17b0
             try clear p18
             try clear q18
             try clear hx18
             try clear c20
             try clear p21
             try clear q21
             try clear hx21
             try clear c22
             try clear p25
             try clear q25
             try clear hx25
             try clear c26
             try clear c26b0
             try clear c26b1
             try clear c27
             try clear c27b0
             try clear c29
             try clear c29b0
             try clear c30
             try clear c30b0
             try clear p31
             try clear q31
             try clear hx31
             try clear p1
             try clear p12
             try clear p18
             try clear p2
             try clear p21
             try clear p25
             try clear p31
             try clear p6
             try clear p7
             try clear q1
             try clear q12
             try clear q18
             try clear q21
             try clear q25
             try clear q31
             try clear q7
             obtain ⟨kq, x66_23, rfl, HA, HJ23, HO_4, HB⟩ := hcut
             cases kq with
             | zero => exact absurd HA.out (by simp [barrowref24_skuOf.j2])
             | succ kj23 =>
              have H := HA.out
              clear HA
              simp only [barrowref24_skuOf.j2] at H
              by_cases c32 : x66_23 = true
              ·subst c32
               have H1 : (some ((⟨#[]⟩ : ByteArray), false)) = some (r1, r2) := by rw [if_pos rfl] at H; exact H
               clear H
               have H := H1
               clear H1
               simp only [Option.some.injEq, Prod.mk.injEq] at H
               obtain ⟨rfl, rfl⟩ := H
               go_wp2
               go_ret2
               exact ⟨by first | rfl | (simp [errW_none, errW_some] <;> rfl) | (simp [*, errW_none, errW_some] <;> rfl), by repeat (first | (with_reducible first | exact HB.out | apply below_alloc | apply pw_below_drewN | apply below_drew1) | exact HB.out)⟩
              ·replace c32 := Bool.eq_false_iff.mpr c32
               subst c32
               have H1 : (if 0 ≤ (wrap64 (x6_2 + 2)) then (if (wrap64 (x6_2 + 2)) < (s5_.size : Int) then ((barrowref24_digit.f kj23 (bt s5_ (wrap64 (x6_2 + 2)))).bind fun t173 => (if 0 ≤ (wrap64 (x6_2 + 3)) then (if (wrap64 (x6_2 + 3)) < (s5_.size : Int) then ((barrowref24_digit.f kj23 (bt s5_ (wrap64 (x6_2 + 3)))).bind fun t174 => (if t173 < 0 then (some ((⟨#[]⟩ : ByteArray), false)) else (if t174 < 0 then (some ((⟨#[]⟩ : ByteArray), false)) else (if x4_2.length < 140737488355328 then (barrowref24_skuOf.l0 kj23 (x4_2 ++ [(wrap64 ((wrap64 (16 * t173)) + t174)) % 256]) s5_ (wrap64 ((wrap64 (x6_2 + 3)) + 1))) else (none))))) else (none)) else (none))) else (none)) else (none)) = some (r1, r2) := by rw [if_neg (show ¬ (false = true) by decide)] at H; exact H
               clear H
               have H := H1
               clear H1
               obtain ⟨ji33, hji33⟩ : ∃ j_ : Int, (wrap64 (x6_2 + 2)) = j_ := ⟨_, rfl⟩
               replace H : (if 0 ≤ (ji33) then (if (ji33) < (s5_.size : Int) then ((barrowref24_digit.f kj23 (bt s5_ (ji33))).bind fun t173 => (if 0 ≤ (wrap64 (x6_2 + 3)) then (if (wrap64 (x6_2 + 3)) < (s5_.size : Int) then ((barrowref24_digit.f kj23 (bt s5_ (wrap64 (x6_2 + 3)))).bind fun t174 => (if t173 < 0 then (some ((⟨#[]⟩ : ByteArray), false)) else (if t174 < 0 then (some ((⟨#[]⟩ : ByteArray), false)) else (if x4_2.length < 140737488355328 then (barrowref24_skuOf.l0 kj23 (x4_2 ++ [(wrap64 ((wrap64 (16 * t173)) + t174)) % 256]) s5_ (wrap64 ((wrap64 (x6_2 + 3)) + 1))) else (none))))) else (none)) else (none))) else (none)) else (none)) = some (r1, r2) := by first | (rw [hji33] at H; exact H) | (simp only [hji33] at H ⊢; exact H)
               have hji33w : (IntKind.i64.wrap (x6_2 + 2)) = ji33 := (i64_w _).trans hji33
               by_cases c34 : 0 ≤ (ji33)
               ·rw [if_pos c34] at H
                have c34b0 : decide (0 ≤ (ji33)) = true := decide_eq_true c34
                clear c34
                by_cases c35 : (ji33) < (s5_.size : Int)
                ·rw [if_pos c35] at H
                 have c35b0 : decide ((ji33) < (s5_.size : Int)) = true := decide_eq_true c35
                 clear c35
                 replace H := Option.bind_eq_some_iff.mp H
                 obtain ⟨t173, A370, H⟩ := H
                 replace H : (if 0 ≤ (wrap64 (x6_2 + 3)) then (if (wrap64 (x6_2 + 3)) < (s5_.size : Int) then ((barrowref24_digit.f kj23 (bt s5_ (wrap64 (x6_2 + 3)))).bind fun t174 => (if t173 < 0 then (some ((⟨#[]⟩ : ByteArray), false)) else (if t174 < 0 then (some ((⟨#[]⟩ : ByteArray), false)) else (if x4_2.length < 140737488355328 then (barrowref24_skuOf.l0 kj23 (x4_2 ++ [(wrap64 ((wrap64 (16 * t173)) + t174)) % 256]) s5_ (wrap64 ((wrap64 (x6_2 + 3)) + 1))) else (none))))) else (none)) else (none)) = some (r1, r2) := H
                 have A37 := Aside0.mk A370
                 clear A370
                 obtain ⟨ji38, hji38⟩ : ∃ j_ : Int, (wrap64 (x6_2 + 3)) = j_ := ⟨_, rfl⟩
                 replace H : (if 0 ≤ (ji38) then (if (ji38) < (s5_.size : Int) then ((barrowref24_digit.f kj23 (bt s5_ (ji38))).bind fun t174 => (if t173 < 0 then (some ((⟨#[]⟩ : ByteArray), false)) else (if t174 < 0 then (some ((⟨#[]⟩ : ByteArray), false)) else (if x4_2.length < 140737488355328 then (barrowref24_skuOf.l0 kj23 (x4_2 ++ [(wrap64 ((wrap64 (16 * t173)) + t174)) % 256]) s5_ (wrap64 ((ji38) + 1))) else (none))))) else (none)) else (none)) = some (r1, r2) := by first | (rw [hji38] at H; exact H) | (simp only [hji38] at H ⊢; exact H)
                 (try rw [hji38] at A37)
                 have hji38w : (IntKind.i64.wrap (x6_2 + 3)) = ji38 := (i64_w _).trans hji38
                 by_cases c39 : 0 ≤ (ji38)
                 ·rw [if_pos c39] at H
                  have c39b0 : decide (0 ≤ (ji38)) = true := decide_eq_true c39
                  clear c39
                  by_cases c40 : (ji38) < (s5_.size : Int)
                  ·rw [if_pos c40] at H
                   have c40b0 : decide ((ji38) < (s5_.size : Int)) = true := decide_eq_true c40
                   clear c40
                   replace H := Option.bind_eq_some_iff.mp H
                   obtain ⟨t174, A420, H⟩ := H
                   replace H : (if t173 < 0 then (some ((⟨#[]⟩ : ByteArray), false)) else (if t174 < 0 then (some ((⟨#[]⟩ : ByteArray), false)) else (if x4_2.length < 140737488355328 then (barrowref24_skuOf.l0 kj23 (x4_2 ++ [(wrap64 ((wrap64 (16 * t173)) + t174)) % 256]) s5_ (wrap64 ((ji38) + 1))) else (none)))) = some (r1, r2) := H
                   have A42 := Aside0.mk A420
                   clear A420
                   by_cases c43 : t173 < 0
                   ·rw [if_pos c43] at H
                    have c43b0 : decide (t173 < 0) = true := decide_eq_true c43
                    clear c43
                    simp only [Option.some.injEq, Prod.mk.injEq] at H
                    obtain ⟨rfl, rfl⟩ := H
                    have p36 : 0 ≤ ((ji33) : Int) := of_decide_eq_true (by first | (with_reducible assumption) | assumption)
                    have q36 : (ji33) < (s5_.size : Int) := of_decide_eq_true (by first | (with_reducible assumption) | assumption)
                    have hx36 := bt_at s5_ (ji33)
                    replace p36 := eq_true p36
                    replace q36 := eq_true q36
                    go_wp2_with (first | ((with_reducible refine gate_callee (f := 74) rfl ?_); refine goesL_ (some 71) rfl rfl Tryd.func74 (by kernel_rfl) rfl #[.int .u8 (bt s5_ (ji33))] rfl (by (try simp only [List.map_toArray, List.map_cons, List.map_nil]); first | done | (simp only [hji33]; rfl) | rfl | (simp only [List.length_drop, List.length_take]; rfl)) ?_; (with_reducible refine (barrowref24_digit.calls kj23 (bt s5_ (ji33)) t173 _ A37.out).mono ?_); rintro e w' ⟨rfl, ⟨nd, rfl⟩⟩; refine ⟨_, rfl, ?_⟩; have p41 : 0 ≤ ((ji38) : Int) := of_decide_eq_true (by first | (with_reducible assumption) | assumption); have q41 : (ji38) < (s5_.size : Int) := of_decide_eq_true (by first | (with_reducible assumption) | assumption); have hx41 := bt_at s5_ (ji38); replace p41 := eq_true p41; replace q41 := eq_true q41) | ((with_reducible refine gate_callee (f := 74) rfl ?_); refine goesL_ (some 76) rfl rfl Tryd.func74 (by kernel_rfl) rfl #[.int .u8 (bt s5_ (ji38))] rfl (by (try simp only [List.map_toArray, List.map_cons, List.map_nil]); first | done | (simp only [hji38]; rfl) | rfl | (simp only [List.length_drop, List.length_take]; rfl)) ?_; (with_reducible refine (barrowref24_digit.calls kj23 (bt s5_ (ji38)) t174 _ A42.out).mono ?_); rintro e w' ⟨rfl, ⟨nd, rfl⟩⟩; refine ⟨_, rfl, ?_⟩))
                    go_ret2
                    exact ⟨by first | rfl | (simp [errW_none, errW_some] <;> rfl) | (simp only [← hji33, ← hji38]; first | rfl | (simp [errW_none, errW_some] <;> rfl)) | (simp [*, errW_none, errW_some] <;> rfl), by repeat (first | (with_reducible first | exact HB.out | apply below_alloc | apply pw_below_drewN | apply below_drew1) | exact HB.out)⟩
                   ·rw [if_neg c43] at H
                    have c43b0 : decide (t173 < 0) = false := decide_eq_false c43
                    clear c43
                    by_cases c44 : t174 < 0
                    ·rw [if_pos c44] at H
                     have c44b0 : decide (t174 < 0) = true := decide_eq_true c44
                     clear c44
                     simp only [Option.some.injEq, Prod.mk.injEq] at H
                     obtain ⟨rfl, rfl⟩ := H
                     have p36 : 0 ≤ ((ji33) : Int) := of_decide_eq_true (by first | (with_reducible assumption) | assumption)
                     have q36 : (ji33) < (s5_.size : Int) := of_decide_eq_true (by first | (with_reducible assumption) | assumption)
                     have hx36 := bt_at s5_ (ji33)
                     replace p36 := eq_true p36
                     replace q36 := eq_true q36
                     go_wp2_with (first | ((with_reducible refine gate_callee (f := 74) rfl ?_); refine goesL_ (some 71) rfl rfl Tryd.func74 (by kernel_rfl) rfl #[.int .u8 (bt s5_ (ji33))] rfl (by (try simp only [List.map_toArray, List.map_cons, List.map_nil]); first | done | (simp only [hji33]; rfl) | rfl | (simp only [List.length_drop, List.length_take]; rfl)) ?_; (with_reducible refine (barrowref24_digit.calls kj23 (bt s5_ (ji33)) t173 _ A37.out).mono ?_); rintro e w' ⟨rfl, ⟨nd, rfl⟩⟩; refine ⟨_, rfl, ?_⟩; have p41 : 0 ≤ ((ji38) : Int) := of_decide_eq_true (by first | (with_reducible assumption) | assumption); have q41 : (ji38) < (s5_.size : Int) := of_decide_eq_true (by first | (with_reducible assumption) | assumption); have hx41 := bt_at s5_ (ji38); replace p41 := eq_true p41; replace q41 := eq_true q41) | ((with_reducible refine gate_callee (f := 74) rfl ?_); refine goesL_ (some 76) rfl rfl Tryd.func74 (by kernel_rfl) rfl #[.int .u8 (bt s5_ (ji38))] rfl (by (try simp only [List.map_toArray, List.map_cons, List.map_nil]); first | done | (simp only [hji38]; rfl) | rfl | (simp only [List.length_drop, List.length_take]; rfl)) ?_; (with_reducible refine (barrowref24_digit.calls kj23 (bt s5_ (ji38)) t174 _ A42.out).mono ?_); rintro e w' ⟨rfl, ⟨nd, rfl⟩⟩; refine ⟨_, rfl, ?_⟩))
                     go_ret2
                     exact ⟨by first | rfl | (simp [errW_none, errW_some] <;> rfl) | (simp only [← hji33, ← hji38]; first | rfl | (simp [errW_none, errW_some] <;> rfl)) | (simp [*, errW_none, errW_some] <;> rfl), by repeat (first | (with_reducible first | exact HB.out | apply below_alloc | apply pw_below_drewN | apply below_drew1) | exact HB.out)⟩
                    ·rw [if_neg c44] at H
                     have c44b0 : decide (t174 < 0) = false := decide_eq_false c44
                     clear c44
                     by_cases c45 : x4_2.length < 140737488355328
                     ·rw [if_pos c45] at H
                      have LMc45 := Aside0.mk c45
                      clear c45
                      obtain ⟨y175, hy175⟩ : ∃ y_ : List Int, y_ = (x4_2 ++ [(wrap64 ((wrap64 (16 * t173)) + t174)) % 256]) := ⟨_, rfl⟩
                      replace H : (barrowref24_skuOf.l0 kj23 y175 s5_ (wrap64 ((ji38) + 1))) = some (r1, r2) := by first | (rw [hy175]; with_reducible exact H) | (have H2_ := (Option.bind_some _ _).symm.trans H; rw [hy175]; with_reducible exact H2_) | (have H2_ := (Option.bind_some _ _).symm.trans H; with_reducible exact H2_) | with_reducible exact H | (rw [hy175]; exact H) | exact H
                      have Ny175 := Aside0.mk hy175
                      clear hy175
                      have H' := Aside0.mk H
                      clear H
                      have p36 : 0 ≤ ((ji33) : Int) := of_decide_eq_true (by first | (with_reducible assumption) | assumption)
                      have q36 : (ji33) < (s5_.size : Int) := of_decide_eq_true (by first | (with_reducible assumption) | assumption)
                      have hx36 := bt_at s5_ (ji33)
                      replace p36 := eq_true p36
                      replace q36 := eq_true q36
                      go_wp2_with (first | ((with_reducible refine gate_callee (f := 74) rfl ?_); refine goesL_ (some 71) rfl rfl Tryd.func74 (by kernel_rfl) rfl #[.int .u8 (bt s5_ (ji33))] rfl (by (try simp only [List.map_toArray, List.map_cons, List.map_nil]); first | done | (simp only [hji33]; rfl) | rfl | (simp only [List.length_drop, List.length_take]; rfl)) ?_; (with_reducible refine (barrowref24_digit.calls kj23 (bt s5_ (ji33)) t173 _ A37.out).mono ?_); rintro e w' ⟨rfl, ⟨nd, rfl⟩⟩; refine ⟨_, rfl, ?_⟩; have p41 : 0 ≤ ((ji38) : Int) := of_decide_eq_true (by first | (with_reducible assumption) | assumption); have q41 : (ji38) < (s5_.size : Int) := of_decide_eq_true (by first | (with_reducible assumption) | assumption); have hx41 := bt_at s5_ (ji38); replace p41 := eq_true p41; replace q41 := eq_true q41) | ((with_reducible refine gate_callee (f := 74) rfl ?_); refine goesL_ (some 76) rfl rfl Tryd.func74 (by kernel_rfl) rfl #[.int .u8 (bt s5_ (ji38))] rfl (by (try simp only [List.map_toArray, List.map_cons, List.map_nil]); first | done | (simp only [hji38]; rfl) | rfl | (simp only [List.length_drop, List.length_take]; rfl)) ?_; (with_reducible refine (barrowref24_digit.calls kj23 (bt s5_ (ji38)) t174 _ A42.out).mono ?_); rintro e w' ⟨rfl, ⟨nd, rfl⟩⟩; refine ⟨_, rfl, ?_⟩) | ((with_reducible refine gate_builtin (b := .append) (xs := #[.tmp 83, .tmp 89]) rfl ?_); (try (refine gate_guard (by rfl) ?_; dsimp only)); at_builtin; refine Kd.R_append (Kd.int .u8) (w0 := w) w.heap.size rfl (.tmp 83) (.tmp 89) 48 5 (.int .u8 0) 1 rfl Tryd.underlying48 info5 rfl (by decide) (by omega) u4 x4_2 ((wrap64 ((wrap64 (16 * t173)) + t174)) % 256) [.int .u8 ((wrap64 ((wrap64 (16 * t173)) + t174)) % 256)] (fun _ => True) (fun _ => False) rfl rfl ?aP (fun _ hk => hk.elim) ?aF ?aO ?aB ?aS ?aL ?_; (case aP => exact rfl); (case aB => exact (by repeat (first | (with_reducible first | exact HB.out | apply below_alloc | apply pw_below_drewN | apply below_drew1) | exact HB.out))); (case aF => exact (fun _ _ => trivial)); (case aO => exact (by (with_reducible repeat (first | apply Kd.R_alloc | apply Kd.R_drewN | apply Kd.R_drew)); exact HO_4.out)); (case aS => exact (below_size (by repeat (first | (with_reducible first | exact HB.out | apply below_alloc | apply pw_below_drewN | apply below_drew1) | exact HB.out)))); (case aL => have := LMc45.out; omega); intro v176 w46 ho hb hg hat; rw [← Ny175.out] at ho; have n0_ := Aside0.mk (hb); have n1_ := Aside0.mk (ho); clear HB; clear HO_4; have HB := n0_; have HO177 := n1_; clear n0_ n1_; clear ho hb hg hat))
                      go_roundg kj23
                      case measure => have := HJ3.out; have := HK2.out; have := HJ23.out; omega
                      case rel => exact ⟨(y175), (wrap64 ((ji38) + 1)), (by first | rfl | (simp; done) | (simp only [← hji38] <;> (first | rfl | simp)) | (simp [*]; done)), H', ⟨by have := HJ3.out; have := HK2.out; have := HJ23.out; omega⟩, ⟨by (with_reducible repeat (first | apply Kd.R_alloc | apply Kd.R_drewN | apply Kd.R_drew)); exact HO177.out⟩, ⟨by repeat (first | (with_reducible first | exact HB.out | apply below_alloc | apply pw_below_drewN | apply below_drew1) | exact HB.out)⟩⟩
                     ·rw [if_neg c45] at H
                      exact absurd H (by simp)
                  ·rw [if_neg c40] at H
                   exact absurd H (by simp)
                 ·rw [if_neg c39] at H
                  exact absurd H (by simp)
                ·rw [if_neg c35] at H
                 exact absurd H (by simp)
               ·rw [if_neg c34] at H
                exact absurd H (by simp)
          ·rw [if_neg c17] at H
           exact absurd H (by simp)
         ·rw [if_neg c16] at H
          have c16b0 : decide (x6_2 < (s5_.size : Int)) = false := decide_eq_false c16
          clear c16
          simp only [Option.some.injEq, Prod.mk.injEq] at H
          obtain ⟨rfl, rfl⟩ := H
          have hcv47 := own_string (P := Tryd.prog) Tryd.underlying48 Tryd.underlying5 Tryd.underlying9 (Kd.own_of_R HO_4.out)
          go_wp2
          go_ret2
          exact ⟨by first | rfl | (simp [errW_none, errW_some] <;> rfl) | (simp [*, errW_none, errW_some] <;> rfl), by repeat (first | (with_reducible first | exact HB.out | apply below_alloc | apply pw_below_drewN | apply below_drew1) | exact HB.out)⟩
      ·rw [if_neg c15] at H
       exact absurd H (by simp)
     ·rw [if_neg c14] at H
      exact absurd H (by simp)
end Go.Proofs.YtlmdhpfggobogaaDoor.G

namespace Go.Proofs.YtlmdhpfggobogaaDoor.G
open Go.RowKit Go.Proofs.YtlmdhpfggobogaaDoorW.PrintWords Go.Proofs.YtlmdhpfggobogaaDoorW.PrintLast Go.Proofs.YtlmdhpfggobogaaDoorW.PrintMore
attribute [local go_sem] max2_int min2_int max_two min_two max_three min_three max_four min_four   -- for this text's walks alone
set_option linter.unusedVariables false
set_option linter.unusedSimpArgs false
mutual
def barrowref24_numberOf.j0 : Nat → ByteArray → Bool → Option (Int × Bool)
 | 0, _, _ => none
 | k + 1, x0, x4 => if x4 = true then (if 1 ≤ (x0.size : Int) then (barrowref24_numberOf.j1 k x4 (x0.extract 1 x0.size)) else (none)) else (barrowref24_numberOf.j1 k x4 x0)
def barrowref24_numberOf.j1 : Nat → Bool → ByteArray → Option (Int × Bool)
 | 0, _, _ => none
 | k + 1, x4, x5 => if (x5.size : Int) = 0 then (barrowref24_numberOf.j2 k x4 x5 true) else (if (x5.size : Int) > 19 then (barrowref24_numberOf.j2 k x4 x5 true) else (if 0 < (x5.size : Int) then (if (bt x5 0) = 48 then (if x4 = true then (barrowref24_numberOf.j2 k x4 x5 true) else (barrowref24_numberOf.j2 k x4 x5 (decide ((x5.size : Int) > 1)))) else (barrowref24_numberOf.j2 k x4 x5 false)) else (none)))
def barrowref24_numberOf.j2 : Nat → Bool → ByteArray → Bool → Option (Int × Bool)
 | 0, _, _, _ => none
 | k + 1, x4, x5, x41 => if x41 = true then (some (0, false)) else (barrowref24_numberOf.l0 k x4 x5 0 0)
def barrowref24_numberOf.l0 : Nat → Bool → ByteArray → Int → Int → Option (Int × Bool)
 | 0, _, _, _, _ => none
 | k + 1, x4, x5, x6, x7 => if x7 < (x5.size : Int) then (if 0 ≤ x7 then (if (bt x5 x7) < 48 then (barrowref24_numberOf.j4 k x4 x5 x6 x7 true) else (barrowref24_numberOf.j4 k x4 x5 x6 x7 (decide ((bt x5 x7) > 57)))) else (none)) else (if x4 = true then (some (x6, true)) else (if x6 = (-9223372036854775808) then (some (0, false)) else (some (wrap64 (-x6), true))))
def barrowref24_numberOf.j4 : Nat → Bool → ByteArray → Int → Int → Bool → Option (Int × Bool)
 | 0, _, _, _, _, _ => none
 | k + 1, x4, x5, x6, x7, x57 => if x57 = true then (some (0, false)) else (if 0 ≤ x7 then (if x7 < (x5.size : Int) then (if x6 < (Int.tdiv ((-9223372036854775808) + (((bt x5 x7) - 48) % 256)) 10) then (some (0, false)) else (if (wrap64 (10 * x6)) < ((-9223372036854775808) + (((bt x5 x7) - 48) % 256)) then (some (0, false)) else (barrowref24_numberOf.l0 k x4 x5 (wrap64 ((wrap64 (10 * x6)) - (((bt x5 x7) - 48) % 256))) (wrap64 (x7 + 1))))) else (none)) else (none))
end
def barrowref24_numberOf.f (k : Nat) (a0 : ByteArray) : Option (Int × Bool) := if (a0.size : Int) > 0 then (if 0 < (a0.size : Int) then (barrowref24_numberOf.j0 k a0 ((bt a0 0) == 45)) else (none)) else (barrowref24_numberOf.j0 k a0 false)
set_option maxHeartbeats 8000000 in
set_option maxRecDepth 100000 in
theorem barrowref24_numberOf.calls (k : Nat) (a0 : ByteArray) (r1 : Int) (r2 : Bool) (w : World) (h : barrowref24_numberOf.f k a0 = some (r1, r2)) :
  Calls Tryd.prog 62 #[.string a0] w fun e w' => e = .returned (.tuple #[.int .i64 r1, .bool r2]) ∧ Drawn0 w w' := by
 have H : (if (a0.size : Int) > 0 then (if 0 < (a0.size : Int) then (barrowref24_numberOf.j0 k a0 ((bt a0 0) == 45)) else (none)) else (barrowref24_numberOf.j0 k a0 false)) = some (r1, r2) := h
 clear h
 have HC2 := Aside0.mk H
 clear H
 go_enter Tryd.func62, Tryd.ntmps62
 go_upto_region 1 with (fail)
 go_cut [4] (fun v4 wc => ∃ (kq : Nat) (x4_1 : Bool), v4 = .bool x4_1 ∧ Aside0 (barrowref24_numberOf.j0 kq a0 x4_1 = some (r1, r2)) ∧ Aside0 (kq ≤ k) ∧ Drawn0 w wc)
 case first =>
  have H := HC2.out
  clear HC2
  by_cases c3 : (a0.size : Int) > 0
  ·rw [if_pos c3] at H
   have c3b0 : decide (0 < (a0.size : Int)) = true := decide_eq_true c3
   have c3b1 : decide (0 < a0.size) = true := decide_eq_true (by omega)
   clear c3
   (first | rw [c3b0] | (simp only [i64_w, i32_w]; rw [c3b0]) | skip)
   by_cases c4 : 0 < (a0.size : Int)
   ·rw [if_pos c4] at H
    have c4b0 : decide (0 < (a0.size : Int)) = true := decide_eq_true c4
    have c4b1 : decide (0 < a0.size) = true := decide_eq_true (by omega)
    clear c4
    have H' := Aside0.mk H
    clear H
    have p5 : 0 ≤ (0 : Int) := (by omega)
    have q5 : 0 < a0.size := (by have : (0 : Int) < (a0.size : Int) := of_decide_eq_true (by first | (with_reducible assumption) | assumption); omega)
    have hx5 : ∀ h : 0 < a0.size, ((a0[0]'h).toNat : Int) = bt a0 0 := bt_at a0 0
    clear p5
    have qi5 : (0 < (a0.size : Int)) = True := eq_true (of_decide_eq_true (by first | (with_reducible assumption) | assumption))
    replace q5 := eq_true q5
    go_wp2
    go_meet
    case rel => exact ⟨_, (((bt a0 0) == 45)), (by first | rfl | (simp; done) | (simp [*]; done)), H', ⟨by first | omega | exact Nat.le_refl _⟩, by repeat (first | exact Drawn0.refl _ | apply Drawn0.step)⟩
   ·rw [if_neg c4] at H
    exact absurd H (by simp)
  ·rw [if_neg c3] at H
   have c3b0 : decide (0 < (a0.size : Int)) = false := decide_eq_false c3
   have c3b1 : decide (0 < a0.size) = false := decide_eq_false (by omega)
   clear c3
   (first | rw [c3b0] | (simp only [i64_w, i32_w]; rw [c3b0]) | skip)
   have H' := Aside0.mk H
   clear H
   go_wp2
   go_meet
   case rel => exact ⟨_, (false), (by first | rfl | (simp; done) | (simp [*]; done)), H', ⟨by first | omega | exact Nat.le_refl _⟩, by repeat (first | exact Drawn0.refl _ | apply Drawn0.step)⟩
 case rest =>
  clear HC2
  try clear p2
  try clear c3
  try clear c3b0
  try clear c3b1
  try clear c4
  try clear c4b0
  try clear c4b1
  try clear p5
  try clear q5
  try clear hx5
  try clear qi5
  try clear p5
  try clear q5
  obtain ⟨kq, x4_1, rfl, HA, HJ1, ⟨mc1, rfl⟩⟩ := hcut
  cases kq with
  | zero => exact absurd HA.out (by simp [barrowref24_numberOf.j0])
  | succ kj1 =>
   have H := HA.out
   clear HA
   simp only [barrowref24_numberOf.j0] at H
   have HC6 := Aside0.mk H
   clear H
   go_upto_if 18 with (fail)
   go_cut [5] (fun v5 wc => ∃ (kq : Nat) (x5_5 : ByteArray), v5 = .string x5_5 ∧ Aside0 (barrowref24_numberOf.j1 kq x4_1 x5_5 = some (r1, r2)) ∧ Aside0 (kq ≤ kj1) ∧ Drawn0 w wc)
   case first =>
    have H := HC6.out
    clear HC6
    by_cases c7 : x4_1 = true
    ·subst c7
     have H1 : (if 1 ≤ (a0.size : Int) then (barrowref24_numberOf.j1 kj1 true (a0.extract 1 a0.size)) else (none)) = some (r1, r2) := by rw [if_pos rfl] at H; exact H
     clear H
     have H := H1
     clear H1
     by_cases c8 : 1 ≤ (a0.size : Int)
     ·rw [if_pos c8] at H
      have c8b0 := eq_true c8
      have c8b1 : decide (1 ≤ (a0.size : Int)) = true := decide_eq_true c8
      clear c8
      have H' := Aside0.mk H
      clear H
      go_wp2
      go_meet
      case rel => exact ⟨_, (a0.extract 1 a0.size), (by first | rfl | (simp; done) | (simp [*]; done)), H', ⟨by have := HJ1.out; first | omega | exact Nat.le_refl _⟩, by repeat (first | exact Drawn0.refl _ | apply Drawn0.step)⟩
     ·rw [if_neg c8] at H
      exact absurd H (by simp)
    ·replace c7 := Bool.eq_false_iff.mpr c7
     subst c7
     have H1 : (barrowref24_numberOf.j1 kj1 false a0) = some (r1, r2) := by rw [if_neg (show ¬ (false = true) by decide)] at H; exact H
     clear H
     have H := H1
     clear H1
     have H' := Aside0.mk H
     clear H
     go_wp2
     go_meet
     case rel => exact ⟨_, (a0), (by first | rfl | (simp; done) | (simp [*]; done)), H', ⟨by have := HJ1.out; first | omega | exact Nat.le_refl _⟩, by repeat (first | exact Drawn0.refl _ | apply Drawn0.step)⟩
   case rest =>
    clear HC6
    try clear c1
    try clear p2
    try clear c3
    try clear c3b0
    try clear c3b1
    try clear c4
    try clear c4b0
    try clear c4b1
    try clear p5
    try clear q5
    try clear hx5
    try clear qi5
    try clear c6
    try clear c7
    try clear c8
    try clear c8b0
    try clear c8b1
    try clear p2
    try clear p5
    try clear q5
    obtain ⟨kq, x5_5, rfl, HA, HJ5, ⟨mc5, rfl⟩⟩ := hcut
    cases kq with
    | zero => exact absurd HA.out (by simp [barrowref24_numberOf.j1])
    | succ kj5 =>
     have H := HA.out
     clear HA
     simp only [barrowref24_numberOf.j1] at H
     have HC9 := Aside0.mk H
     clear H
     go_upto_region 5 with (fail)
     go_cut [41] (fun v41 wc => ∃ (kq : Nat) (x41_8 : Bool), v41 = .bool x41_8 ∧ Aside0 (barrowref24_numberOf.j2 kq x4_1 x5_5 x41_8 = some (r1, r2)) ∧ Aside0 (kq ≤ kj5) ∧ Drawn0 w wc)
     case first =>
      have H := HC9.out
      clear HC9
      by_cases c10 : (x5_5.size : Int) = 0
      ·rw [if_pos c10] at H
       have c10b0 : ((x5_5.size : Int) == 0) = true := beq_iff_eq.mpr c10
       have c10b1 : ((x5_5.size : Int) != 0) = false := bne_eq_false_iff_eq.mpr c10
       clear c10
       (first | rw [c10b0] | (simp only [i64_w, i32_w]; rw [c10b0]) | skip)
       have H' := Aside0.mk H
       clear H
       go_wp2
       go_meet
       case rel => exact ⟨_, (true), (by first | rfl | (simp; done) | (simp [*]; done)), H', ⟨by have := HJ1.out; have := HJ5.out; first | omega | exact Nat.le_refl _⟩, by repeat (first | exact Drawn0.refl _ | apply Drawn0.step)⟩
      ·rw [if_neg c10] at H
       have c10b0 : ((x5_5.size : Int) == 0) = false := beq_eq_false_iff_ne.mpr c10
       have c10b1 : ((x5_5.size : Int) != 0) = true := bne_iff_ne.mpr c10
       (first | rw [c10b0] | (simp only [i64_w, i32_w]; rw [c10b0]) | skip)
       by_cases c11 : (x5_5.size : Int) > 19
       ·rw [if_pos c11] at H
        have c11b0 : decide (19 < (x5_5.size : Int)) = true := decide_eq_true c11
        have c11b1 : decide (19 < x5_5.size) = true := decide_eq_true (by omega)
        clear c11
        have H' := Aside0.mk H
        clear H
        go_wp2
        go_meet
        case rel => exact ⟨_, (true), (by first | rfl | (simp; done) | (simp [*]; done)), H', ⟨by have := HJ1.out; have := HJ5.out; first | omega | exact Nat.le_refl _⟩, by repeat (first | exact Drawn0.refl _ | apply Drawn0.step)⟩
       ·rw [if_neg c11] at H
        have c11b0 : decide (19 < (x5_5.size : Int)) = false := decide_eq_false c11
        have c11b1 : decide (19 < x5_5.size) = false := decide_eq_false (by omega)
        clear c11
        by_cases c12 : 0 < (x5_5.size : Int)
        ·rw [if_pos c12] at H
         have c12b0 : decide (0 < (x5_5.size : Int)) = true := decide_eq_true c12
         have c12b1 : decide (0 < x5_5.size) = true := decide_eq_true (by omega)
         clear c12
         by_cases c14 : (bt x5_5 0) = 48
         ·rw [if_pos c14] at H
          have c14b0 : ((bt x5_5 0) == 48) = true := beq_iff_eq.mpr c14
          have c14b1 : ((bt x5_5 0) != 48) = false := bne_eq_false_iff_eq.mpr c14
          clear c14
          by_cases c15 : x4_1 = true
          ·subst c15
           have H1 : (barrowref24_numberOf.j2 kj5 true x5_5 true) = some (r1, r2) := by rw [if_pos rfl] at H; exact H
           clear H
           have H := H1
           clear H1
           have H' := Aside0.mk H
           clear H
           have p13 : 0 ≤ (0 : Int) := (by omega)
           have q13 : 0 < x5_5.size := (by have : (0 : Int) < (x5_5.size : Int) := of_decide_eq_true (by first | (with_reducible assumption) | assumption); omega)
           have hx13 : ∀ h : 0 < x5_5.size, ((x5_5[0]'h).toNat : Int) = bt x5_5 0 := bt_at x5_5 0
           clear p13
           have qi13 : (0 < (x5_5.size : Int)) = True := eq_true (of_decide_eq_true (by first | (with_reducible assumption) | assumption))
           replace q13 := eq_true q13
           go_wp2
           go_meet
           case rel => exact ⟨_, (true), (by first | rfl | (simp; done) | (simp [*]; done)), H', ⟨by have := HJ1.out; have := HJ5.out; first | omega | exact Nat.le_refl _⟩, by repeat (first | exact Drawn0.refl _ | apply Drawn0.step)⟩
          ·replace c15 := Bool.eq_false_iff.mpr c15
           subst c15
           have H1 : (barrowref24_numberOf.j2 kj5 false x5_5 (decide ((x5_5.size : Int) > 1))) = some (r1, r2) := by rw [if_neg (show ¬ (false = true) by decide)] at H; exact H
           clear H
           have H := H1
           clear H1
           have H' := Aside0.mk H
           clear H
           have p13 : 0 ≤ (0 : Int) := (by omega)
           have q13 : 0 < x5_5.size := (by have : (0 : Int) < (x5_5.size : Int) := of_decide_eq_true (by first | (with_reducible assumption) | assumption); omega)
           have hx13 : ∀ h : 0 < x5_5.size, ((x5_5[0]'h).toNat : Int) = bt x5_5 0 := bt_at x5_5 0
           clear p13
           have qi13 : (0 < (x5_5.size : Int)) = True := eq_true (of_decide_eq_true (by first | (with_reducible assumption) | assumption))
           replace q13 := eq_true q13
           go_wp2
           go_meet
           case rel => exact ⟨_, (decide ((x5_5.size : Int) > 1)), (by first | rfl | (simp; done) | (simp [*]; done)), H', ⟨by have := HJ1.out; have := HJ5.out; first | omega | exact Nat.le_refl _⟩, by repeat (first | exact Drawn0.refl _ | apply Drawn0.step)⟩
         ·rw [if_neg c14] at H
          have c14b0 : ((bt x5_5 0) == 48) = false := beq_eq_false_iff_ne.mpr c14
          have c14b1 : ((bt x5_5 0) != 48) = true := bne_iff_ne.mpr c14
          have H' := Aside0.mk H
          clear H
          have p13 : 0 ≤ (0 : Int) := (by omega)
          have q13 : 0 < x5_5.size := (by have : (0 : Int) < (x5_5.size : Int) := of_decide_eq_true (by first | (with_reducible assumption) | assumption); omega)
          have hx13 : ∀ h : 0 < x5_5.size, ((x5_5[0]'h).toNat : Int) = bt x5_5 0 := bt_at x5_5 0
          clear p13
          have qi13 : (0 < (x5_5.size : Int)) = True := eq_true (of_decide_eq_true (by first | (with_reducible assumption) | assumption))
          replace q13 := eq_true q13
          go_wp2
          go_meet
          case rel => exact ⟨_, (false), (by first | rfl | (simp; done) | (simp [*]; done)), H', ⟨by have := HJ1.out; have := HJ5.out; first | omega | exact Nat.le_refl _⟩, by repeat (first | exact Drawn0.refl _ | apply Drawn0.step)⟩
        ·rw [if_neg c12] at H
         exact absurd H (by simp)
     case rest =>
      clear HC9
      try clear c1
      try clear p1
      try clear q1
      try clear hx1
      try clear qi1
      try clear p2
      try clear c3
      try clear c3b0
      try clear c3b1
      try clear c4
      try clear c4b0
      try clear c4b1
      try clear c5
      try clear p5
      try clear q5
      try clear hx5
      try clear qi5
      try clear c6
      try clear c7
      try clear c8
      try clear c8b0
      try clear c8b1
      try clear c10
      try clear c10b0
      try clear c10b1
      try clear c11
      try clear c11b0
      try clear c11b1
      try clear c12
      try clear c12b0
      try clear c12b1
      try clear p13
      try clear q13
      try clear hx13
      try clear qi13
      try clear c14
      try clear c14b0
      try clear c14b1
      try clear c15
      try clear p13
      try clear p2
      try clear p5
      try clear q13
      try clear q5
      obtain ⟨kq, x41_8, rfl, HA, HJ8, ⟨mc8, rfl⟩⟩ := hcut
      cases kq with
      | zero => exact absurd HA.out (by simp [barrowref24_numberOf.j2])
      | succ kj8 =>
       have H := HA.out
       clear HA
       simp only [barrowref24_numberOf.j2] at H
       by_cases c16 : x41_8 = true
       ·subst c16
        have H1 : (some (0, false)) = some (r1, r2) := by rw [if_pos rfl] at H; exact H
        clear H
        have H := H1
        clear H1
        simp only [Option.some.injEq, Prod.mk.injEq] at H
        obtain ⟨rfl, rfl⟩ := H
        go_wp2
        go_ret2
        exact ⟨by first | rfl | (simp; done) | (simp [*]; done), by repeat (first | exact Drawn0.refl _ | apply Drawn0.step)⟩
       ·replace c16 := Bool.eq_false_iff.mpr c16
        subst c16
        have H1 : (barrowref24_numberOf.l0 kj8 x4_1 x5_5 0 0) = some (r1, r2) := by rw [if_neg (show ¬ (false = true) by decide)] at H; exact H
        clear H
        have H := H1
        clear H1
        have H' := Aside0.mk H
        clear H
        go_wp2
        go_loopg [6, 7] kj8 (fun kq v6 v7 w' => ∃ (x6_4 : Int) (x7_4 : Int), v6 = .int .i64 x6_4 ∧ v7 = .int .i64 x7_4 ∧ Aside0 (barrowref24_numberOf.l0 kq x4_1 x5_5 x6_4 x7_4 = some (r1, r2)) ∧ Aside0 (kq ≤ kj8) ∧ Drawn0 w w')
        case atStart => exact ⟨(0), (0), (by first | rfl | (simp; done) | (simp [*]; done)), (by first | rfl | (simp; done) | (simp [*]; done)), H', ⟨Nat.le_refl _⟩, by repeat (first | exact Drawn0.refl _ | apply Drawn0.step)⟩
        case round =>
         clear H'
         try clear c1
         try clear p1
         try clear q1
         try clear hx1
         try clear qi1
         try clear p2
         try clear c3
         try clear c3b0
         try clear c3b1
         try clear c4
         try clear c4b0
         try clear c4b1
         try clear c5
         try clear p5
         try clear q5
         try clear hx5
         try clear qi5
         try clear c6
         try clear c7
         try clear c8
         try clear c8b0
         try clear c8b1
         try clear c10
         try clear c10b0
         try clear c10b1
         try clear c11
         try clear c11b0
         try clear c11b1
         try clear c12
         try clear c12b0
         try clear c12b1
         try clear p13
         try clear q13
         try clear hx13
         try clear qi13
         try clear c14
         try clear c14b0
         try clear c14b1
         try clear c15
         try clear c16
         try clear p1
         try clear p13
         try clear p2
         try clear p5
         try clear q1
         try clear q13
         try clear q5
         obtain ⟨x6_4, x7_4, rfl, rfl, HA, HK4, ⟨m4, rfl⟩⟩ := hrel
         cases gk with
         | zero => exact absurd HA.out (by simp [barrowref24_numberOf.l0])
         | succ k4 =>
          have H := HA.out
          clear HA
          simp only [barrowref24_numberOf.l0] at H
          by_cases c17 : x7_4 < (x5_5.size : Int)
          ·rw [if_pos c17] at H
           have c17b0 : decide (x7_4 < (x5_5.size : Int)) = true := decide_eq_true c17
           clear c17
           have HC18 := Aside0.mk H
           clear H
           go_upto_region 11 with (fail)
           go_cut [57] (fun v57 wc => ∃ (kq : Nat) (x57_17 : Bool), v57 = .bool x57_17 ∧ Aside0 (barrowref24_numberOf.j4 kq x4_1 x5_5 x6_4 x7_4 x57_17 = some (r1, r2)) ∧ Aside0 (kq ≤ k4) ∧ Drawn0 w wc)
           case first =>
            have H := HC18.out
            clear HC18
            by_cases c19 : 0 ≤ x7_4
            ·rw [if_pos c19] at H
             have c19b0 : decide (0 ≤ x7_4) = true := decide_eq_true c19
             clear c19
             (first | rw [c19b0] | (simp only [i64_w, i32_w]; rw [c19b0]) | skip)
             by_cases c21 : (bt x5_5 x7_4) < 48
             ·rw [if_pos c21] at H
              have c21b0 : decide ((bt x5_5 x7_4) < 48) = true := decide_eq_true c21
              clear c21
              have H' := Aside0.mk H
              clear H
              have p20 : 0 ≤ (x7_4 : Int) := of_decide_eq_true (by first | (with_reducible assumption) | assumption)
              have q20 : x7_4 < (x5_5.size : Int) := of_decide_eq_true (by first | (with_reducible assumption) | assumption)
              have hx20 := bt_at x5_5 x7_4
              replace p20 := eq_true p20
              replace q20 := eq_true q20
              go_wp2
              go_meet
              case rel => exact ⟨_, (true), (by first | rfl | (simp; done) | (simp [*]; done)), H', ⟨by have := HJ1.out; have := HJ5.out; have := HJ8.out; have := HK4.out; first | omega | exact Nat.le_refl _⟩, by repeat (first | exact Drawn0.refl _ | apply Drawn0.step)⟩
             ·rw [if_neg c21] at H
              have c21b0 : decide ((bt x5_5 x7_4) < 48) = false := decide_eq_false c21
              clear c21
              have H' := Aside0.mk H
              clear H
              have p20 : 0 ≤ (x7_4 : Int) := of_decide_eq_true (by first | (with_reducible assumption) | assumption)
              have q20 : x7_4 < (x5_5.size : Int) := of_decide_eq_true (by first | (with_reducible assumption) | assumption)
              have hx20 := bt_at x5_5 x7_4
              replace p20 := eq_true p20
              replace q20 := eq_true q20
              have p22 : 0 ≤ (x7_4 : Int) := of_decide_eq_true (by first | (with_reducible assumption) | assumption)
              have q22 : x7_4 < (x5_5.size : Int) := of_decide_eq_true (by first | (with_reducible assumption) | assumption)
              have hx22 := bt_at x5_5 x7_4
              replace p22 := eq_true p22
              replace q22 := eq_true q22
              go_wp2
              go_meet
              case rel => exact ⟨_, (decide ((bt x5_5 x7_4) > 57)), (by first | rfl | (simp; done) | (simp [*]; done)), H', ⟨by have := HJ1.out; have := HJ5.out; have := HJ8.out; have := HK4.out; first | omega | exact Nat.le_refl _⟩, by repeat (first | exact Drawn0.refl _ | apply Drawn0.step)⟩
            ·rw [if_neg c19] at H
             exact absurd H (by simp)
           case rest =>
            clear HC18
            try clear c1
            try clear p1
            try clear q1
            try clear hx1
            try clear qi1
            try clear c2
            try clear p2
            try clear q2
            try clear hx2
            try clear c3
            try clear c3b0
            try clear c3b1
            try clear c4
            try clear c4b0
            try clear c4b1
            try clear c5
            try clear p5
            try clear q5
            try clear hx5
            try clear qi5
            try clear c6
            try clear c7
            try clear c8
            try clear c8b0
            try clear c8b1
            try clear c10
            try clear c10b0
            try clear c10b1
            try clear c11
            try clear c11b0
            try clear c11b1
            try clear c12
            try clear c12b0
            try clear c12b1
            try clear p13
            try clear q13
            try clear hx13
            try clear qi13
            try clear c14
            try clear c14b0
            try clear c14b1
            try clear c15
            try clear c16
            try clear c17
            try clear c17b0
            try clear c19
            try clear c19b0
            try clear p20
            try clear q20
            try clear hx20
            try clear c21
            try clear c21b0
            try clear p22
            try clear q22
            try clear hx22
            try clear p1
            try clear p13
            try clear p2
            try clear p20
            try clear p22
            try clear p5
            try clear q1
            try clear q13
            try clear q20
            try clear q22
            try clear q5
            obtain ⟨kq, x57_17, rfl, HA, HJ17, ⟨mc17, rfl⟩⟩ := hcut
            cases kq with
            | zero => exact absurd HA.out (by simp [barrowref24_numberOf.j4])
            | succ kj17 =>
             have H := HA.out
             clear HA
             simp only [barrowref24_numberOf.j4] at H
             by_cases c23 : x57_17 = true
             ·subst c23
              have H1 : (some (0, false)) = some (r1, r2) := by rw [if_pos rfl] at H; exact H
              clear H
              have H := H1
              clear H1
              simp only [Option.some.injEq, Prod.mk.injEq] at H
              obtain ⟨rfl, rfl⟩ := H
              go_wp2
              go_ret2
              exact ⟨by first | rfl | (simp; done) | (simp [*]; done), by repeat (first | exact Drawn0.refl _ | apply Drawn0.step)⟩
             ·replace c23 := Bool.eq_false_iff.mpr c23
              subst c23
              have H1 : (if 0 ≤ x7_4 then (if x7_4 < (x5_5.size : Int) then (if x6_4 < (Int.tdiv ((-9223372036854775808) + (((bt x5_5 x7_4) - 48) % 256)) 10) then (some (0, false)) else (if (wrap64 (10 * x6_4)) < ((-9223372036854775808) + (((bt x5_5 x7_4) - 48) % 256)) then (some (0, false)) else (barrowref24_numberOf.l0 kj17 x4_1 x5_5 (wrap64 ((wrap64 (10 * x6_4)) - (((bt x5_5 x7_4) - 48) % 256))) (wrap64 (x7_4 + 1))))) else (none)) else (none)) = some (r1, r2) := by rw [if_neg (show ¬ (false = true) by decide)] at H; exact H
              clear H
              have H := H1
              clear H1
              by_cases c24 : 0 ≤ x7_4
              ·rw [if_pos c24] at H
               have c24b0 : decide (0 ≤ x7_4) = true := decide_eq_true c24
               clear c24
               by_cases c25 : x7_4 < (x5_5.size : Int)
               ·rw [if_pos c25] at H
                have c25b0 : decide (x7_4 < (x5_5.size : Int)) = true := decide_eq_true c25
                clear c25
                by_cases c27 : x6_4 < (Int.tdiv ((-9223372036854775808) + (((bt x5_5 x7_4) - 48) % 256)) 10)
                ·rw [if_pos c27] at H
                 have c27b0 : decide (x6_4 < (Int.tdiv ((-9223372036854775808) + (((bt x5_5 x7_4) - 48) % 256)) 10)) = true := decide_eq_true c27
                 clear c27
                 simp only [Option.some.injEq, Prod.mk.injEq] at H
                 obtain ⟨rfl, rfl⟩ := H
                 have p26 : 0 ≤ (x7_4 : Int) := of_decide_eq_true (by first | (with_reducible assumption) | assumption)
                 have q26 : x7_4 < (x5_5.size : Int) := of_decide_eq_true (by first | (with_reducible assumption) | assumption)
                 have hx26 := bt_at x5_5 x7_4
                 replace p26 := eq_true p26
                 replace q26 := eq_true q26
                 go_wp2
                 go_ret2
                 exact ⟨by first | rfl | (simp; done) | (simp [*]; done), by repeat (first | exact Drawn0.refl _ | apply Drawn0.step)⟩
                ·rw [if_neg c27] at H
                 have c27b0 : decide (x6_4 < (Int.tdiv ((-9223372036854775808) + (((bt x5_5 x7_4) - 48) % 256)) 10)) = false := decide_eq_false c27
                 clear c27
                 by_cases c28 : (wrap64 (10 * x6_4)) < ((-9223372036854775808) + (((bt x5_5 x7_4) - 48) % 256))
                 ·rw [if_pos c28] at H
                  have c28b0 : decide ((wrap64 (10 * x6_4)) < ((-9223372036854775808) + (((bt x5_5 x7_4) - 48) % 256))) = true := decide_eq_true c28
                  clear c28
                  simp only [Option.some.injEq, Prod.mk.injEq] at H
                  obtain ⟨rfl, rfl⟩ := H
                  have p26 : 0 ≤ (x7_4 : Int) := of_decide_eq_true (by first | (with_reducible assumption) | assumption)
                  have q26 : x7_4 < (x5_5.size : Int) := of_decide_eq_true (by first | (with_reducible assumption) | assumption)
                  have hx26 := bt_at x5_5 x7_4
                  replace p26 := eq_true p26
                  replace q26 := eq_true q26
                  go_wp2
                  go_ret2
                  exact ⟨by first | rfl | (simp; done) | (simp [*]; done), by repeat (first | exact Drawn0.refl _ | apply Drawn0.step)⟩
                 ·rw [if_neg c28] at H
                  have c28b0 : decide ((wrap64 (10 * x6_4)) < ((-9223372036854775808) + (((bt x5_5 x7_4) - 48) % 256))) = false := decide_eq_false c28
                  clear c28
                  have H' := Aside0.mk H
                  clear H
                  have p26 : 0 ≤ (x7_4 : Int) := of_decide_eq_true (by first | (with_reducible assumption) | assumption)
                  have q26 : x7_4 < (x5_5.size : Int) := of_decide_eq_true (by first | (with_reducible assumption) | assumption)
                  have hx26 := bt_at x5_5 x7_4
                  replace p26 := eq_true p26
                  replace q26 := eq_true q26
                  go_wp2
                  go_roundg kj17
                  case measure => have := HJ1.out; have := HJ5.out; have := HJ8.out; have := HK4.out; have := HJ17.out; omega
                  case rel => exact ⟨(wrap64 ((wrap64 (10 * x6_4)) - (((bt x5_5 x7_4) - 48) % 256))), (wrap64 (x7_4 + 1)), (by first | rfl | (simp; done) | (simp [*]; done)), (by first | rfl | (simp; done) | (simp [*]; done)), H', ⟨by have := HJ1.out; have := HJ5.out; have := HJ8.out; have := HK4.out; have := HJ17.out; omega⟩, by repeat (first | exact Drawn0.refl _ | apply Drawn0.step)⟩
               ·rw [if_neg c25] at H
                exact absurd H (by simp)
              ·rw [if_neg c24] at H
               exact absurd H (by simp)
          ·rw [if_neg c17] at H
           have c17b0 : decide (x7_4 < (x5_5.size : Int)) = false := decide_eq_false c17
           clear c17
           by_cases c29 : x4_1 = true
           ·subst c29
            have H1 : (some (x6_4, true)) = some (r1, r2) := by rw [if_pos rfl] at H; exact H
            clear H
            have H := H1
            clear H1
            simp only [Option.some.injEq, Prod.mk.injEq] at H
            obtain ⟨rfl, rfl⟩ := H
            go_wp2
            go_ret2
            exact ⟨by first | rfl | (simp; done) | (simp [*]; done), by repeat (first | exact Drawn0.refl _ | apply Drawn0.step)⟩
           ·replace c29 := Bool.eq_false_iff.mpr c29
            subst c29
            have H1 : (if x6_4 = (-9223372036854775808) then (some (0, false)) else (some (wrap64 (-x6_4), true))) = some (r1, r2) := by rw [if_neg (show ¬ (false = true) by decide)] at H; exact H
            clear H
            have H := H1
            clear H1
            by_cases c30 : x6_4 = (-9223372036854775808)
            ·rw [if_pos c30] at H
             have c30b0 : (x6_4 == (-9223372036854775808)) = true := beq_iff_eq.mpr c30
             have c30b1 : (x6_4 != (-9223372036854775808)) = false := bne_eq_false_iff_eq.mpr c30
             clear c30
             simp only [Option.some.injEq, Prod.mk.injEq] at H
             obtain ⟨rfl, rfl⟩ := H
             go_wp2
             go_ret2
             exact ⟨by first | rfl | (simp; done) | (simp [*]; done), by repeat (first | exact Drawn0.refl _ | apply Drawn0.step)⟩
            ·rw [if_neg c30] at H
             have c30b0 : (x6_4 == (-9223372036854775808)) = false := beq_eq_false_iff_ne.mpr c30
             have c30b1 : (x6_4 != (-9223372036854775808)) = true := bne_iff_ne.mpr c30
             simp only [Option.some.injEq, Prod.mk.injEq] at H
             obtain ⟨rfl, rfl⟩ := H
             go_wp2
             go_ret2
             exact ⟨by first | rfl | (simp; done) | (simp [*]; done), by repeat (first | exact Drawn0.refl _ | apply Drawn0.step)⟩
end Go.Proofs.YtlmdhpfggobogaaDoor.G

namespace Go.Proofs.YtlmdhpfggobogaaDoor.G
open Go.RowKit Go.Proofs.YtlmdhpfggobogaaDoorW.PrintWords Go.Proofs.YtlmdhpfggobogaaDoorW.PrintLast Go.Proofs.YtlmdhpfggobogaaDoorW.PrintMore
attribute [local go_sem] max2_int min2_int max_two min_two max_three min_three max_four min_four   -- for this text's walks alone
set_option linter.unusedVariables false
set_option linter.unusedSimpArgs false
def goods_isLetter.f (a0 : Int) : Option (Bool) := if 65 ≤ a0 then (some (decide (a0 ≤ 90))) else (some false)
set_option maxHeartbeats 8000000 in
set_option maxRecDepth 100000 in
theorem goods_isLetter.calls (a0 : Int) (r : Bool) (w : World) (h : goods_isLetter.f a0 = some r) :
  Calls Tryd.prog 89 #[.int .u8 a0] w fun e w' => e = .returned (.bool r) ∧ Drawn0 w w' := by
 have H : (if 65 ≤ a0 then (some (decide (a0 ≤ 90))) else (some false)) = some r := h
 clear h
 by_cases c2 : 65 ≤ a0
 ·rw [if_pos c2] at H
  have c2b0 : decide (65 ≤ a0) = true := decide_eq_true c2
  clear c2
  obtain rfl := Option.some.inj H
  go_enter Tryd.func89, Tryd.ntmps89
  go_wp2
  go_ret
  exact ⟨by first | rfl | (simp; done) | (simp [*]; done), by repeat (first | exact Drawn0.refl _ | apply Drawn0.step)⟩
 ·rw [if_neg c2] at H
  have c2b0 : decide (65 ≤ a0) = false := decide_eq_false c2
  clear c2
  obtain rfl := Option.some.inj H
  go_enter Tryd.func89, Tryd.ntmps89
  go_wp2
  go_ret
  exact ⟨by first | rfl | (simp; done) | (simp [*]; done), by repeat (first | exact Drawn0.refl _ | apply Drawn0.step)⟩
end Go.Proofs.YtlmdhpfggobogaaDoor.G

namespace Go.Proofs.YtlmdhpfggobogaaDoor.G
open Go.RowKit Go.Proofs.YtlmdhpfggobogaaDoorW.PrintWords Go.Proofs.YtlmdhpfggobogaaDoorW.PrintLast Go.Proofs.YtlmdhpfggobogaaDoorW.PrintMore
attribute [local go_sem] max2_int min2_int max_two min_two max_three min_three max_four min_four   -- for this text's walks alone
set_option linter.unusedVariables false
set_option linter.unusedSimpArgs false
def goods_isDigit.f (a0 : Int) : Option (Bool) := if 48 ≤ a0 then (some (decide (a0 ≤ 57))) else (some false)
set_option maxHeartbeats 8000000 in
set_option maxRecDepth 100000 in
theorem goods_isDigit.calls (a0 : Int) (r : Bool) (w : World) (h : goods_isDigit.f a0 = some r) :
  Calls Tryd.prog 90 #[.int .u8 a0] w fun e w' => e = .returned (.bool r) ∧ Drawn0 w w' := by
 have H : (if 48 ≤ a0 then (some (decide (a0 ≤ 57))) else (some false)) = some r := h
 clear h
 by_cases c2 : 48 ≤ a0
 ·rw [if_pos c2] at H
  have c2b0 : decide (48 ≤ a0) = true := decide_eq_true c2
  clear c2
  obtain rfl := Option.some.inj H
  go_enter Tryd.func90, Tryd.ntmps90
  go_wp2
  go_ret
  exact ⟨by first | rfl | (simp; done) | (simp [*]; done), by repeat (first | exact Drawn0.refl _ | apply Drawn0.step)⟩
 ·rw [if_neg c2] at H
  have c2b0 : decide (48 ≤ a0) = false := decide_eq_false c2
  clear c2
  obtain rfl := Option.some.inj H
  go_enter Tryd.func90, Tryd.ntmps90
  go_wp2
  go_ret
  exact ⟨by first | rfl | (simp; done) | (simp [*]; done), by repeat (first | exact Drawn0.refl _ | apply Drawn0.step)⟩
end Go.Proofs.YtlmdhpfggobogaaDoor.G

namespace Go.Proofs.YtlmdhpfggobogaaDoor.G
open Go.RowKit Go.Proofs.YtlmdhpfggobogaaDoorW.PrintWords Go.Proofs.YtlmdhpfggobogaaDoorW.PrintLast Go.Proofs.YtlmdhpfggobogaaDoorW.PrintMore
attribute [local go_sem] max2_int min2_int max_two min_two max_three min_three max_four min_four   -- for this text's walks alone
set_option linter.unusedVariables false
set_option linter.unusedSimpArgs false
def goods_isMark.f (a0 : Int) : Option (Bool) := if a0 = 45 then (some true) else (some (a0 == 46))
set_option maxHeartbeats 8000000 in
set_option maxRecDepth 100000 in
theorem goods_isMark.calls (a0 : Int) (r : Bool) (w : World) (h : goods_isMark.f a0 = some r) :
  Calls Tryd.prog 91 #[.int .u8 a0] w fun e w' => e = .returned (.bool r) ∧ Drawn0 w w' := by
 have H : (if a0 = 45 then (some true) else (some (a0 == 46))) = some r := h
 clear h
 by_cases c2 : a0 = 45
 ·rw [if_pos c2] at H
  have c2b0 : (a0 == 45) = true := beq_iff_eq.mpr c2
  have c2b1 : (a0 != 45) = false := bne_eq_false_iff_eq.mpr c2
  clear c2
  obtain rfl := Option.some.inj H
  go_enter Tryd.func91, Tryd.ntmps91
  go_wp2
  go_ret
  exact ⟨by first | rfl | (simp; done) | (simp [*]; done), by repeat (first | exact Drawn0.refl _ | apply Drawn0.step)⟩
 ·rw [if_neg c2] at H
  have c2b0 : (a0 == 45) = false := beq_eq_false_iff_ne.mpr c2
  have c2b1 : (a0 != 45) = true := bne_iff_ne.mpr c2
  obtain rfl := Option.some.inj H
  go_enter Tryd.func91, Tryd.ntmps91
  go_wp2
  go_ret
  exact ⟨by first | rfl | (simp; done) | (simp [*]; done), by repeat (first | exact Drawn0.refl _ | apply Drawn0.step)⟩
end Go.Proofs.YtlmdhpfggobogaaDoor.G

namespace Go.Proofs.YtlmdhpfggobogaaDoor.G
open Go.RowKit Go.Proofs.YtlmdhpfggobogaaDoorW.PrintWords Go.Proofs.YtlmdhpfggobogaaDoorW.PrintLast Go.Proofs.YtlmdhpfggobogaaDoorW.PrintMore
attribute [local go_sem] max2_int min2_int max_two min_two max_three min_three max_four min_four   -- for this text's walks alone
set_option linter.unusedVariables false
set_option linter.unusedSimpArgs false
mutual
def goods_Check.l0 : Nat → ByteArray → Int → Int → Option (Int × Int)
 | 0, _, _, _ => none
 | k + 1, x0, x12, x13 => if x13 < x12 then (if 0 ≤ x13 then (if x13 < (x0.size : Int) then ((goods_isLetter.f (bt x0 x13)).bind fun t606 => (if t606 = true then (goods_Check.j1 k x0 x13 (bt x0 x13) x12 x13 true) else ((goods_isDigit.f (bt x0 x13)).bind fun t607 => (goods_Check.j1 k x0 x13 (bt x0 x13) x12 x13 t607)))) else (none)) else (none)) else (some (0, 0))
def goods_Check.j1 : Nat → ByteArray → Int → Int → Int → Int → Bool → Option (Int × Int)
 | 0, _, _, _, _, _, _ => none
 | k + 1, x0, x4, x5, x12, x13, x24 => if x24 = true then (goods_Check.l0 k x0 x12 (wrap64 (x13 + 1))) else ((goods_isMark.f x5).bind fun t608 => (if t608 = true then (if x4 = 0 then (some (x4, 22)) else (if x4 = (wrap64 ((x0.size : Int) - 1)) then (some (x4, 22)) else (if 0 ≤ (wrap64 (x4 - 1)) then (if (wrap64 (x4 - 1)) < (x0.size : Int) then ((goods_isMark.f (bt x0 (wrap64 (x4 - 1)))).bind fun t609 => (if t609 = true then (some (x4, 22)) else (goods_Check.l0 k x0 x12 (wrap64 (x13 + 1))))) else (none)) else (none)))) else (some (x4, 22))))
end
def goods_Check.f (k : Nat) (a0 : ByteArray) : Option (Int × Int) := if a0.toList = ([] : List UInt8) then (some (0, 20)) else (if (a0.size : Int) > 24 then (some (0, 21)) else (goods_Check.l0 k a0 (a0.size : Int) 0))
theorem goods_Check.mono_l : ∀ k, (∀ y0 y1 y2, LeO (goods_Check.l0 k y0 y1 y2) (goods_Check.l0 (k + 1) y0 y1 y2)) ∧ (∀ y0 y1 y2 y3 y4 y5, LeO (goods_Check.j1 k y0 y1 y2 y3 y4 y5) (goods_Check.j1 (k + 1) y0 y1 y2 y3 y4 y5))
 | 0 => ⟨fun _ _ _ r h => by simp [goods_Check.l0] at h, fun _ _ _ _ _ _ r h => by simp [goods_Check.j1] at h⟩
 | k + 1 => by
  obtain ⟨ih0, ih1⟩ := goods_Check.mono_l k
  refine ⟨?_, ?_⟩
  ·intro y0 y1 y2
   unfold goods_Check.l0
   repeat' first
   | (with_reducible exact ih0 _ _ _)
   | (with_reducible exact ih1 _ _ _ _ _ _)
   | (with_reducible exact LeO.refl _)
   | (with_reducible exact LeO.none _)
   | (with_reducible refine LeO.ite ?_ ?_)
   | (with_reducible refine LeO.bind ?_ (fun _ => ?_))
   | exact ih0 _ _ _
   | exact ih1 _ _ _ _ _ _
   | exact LeO.none _
   | refine LeO.ite ?_ ?_
   | refine LeO.bind ?_ (fun _ => ?_)
  ·intro y0 y1 y2 y3 y4 y5
   unfold goods_Check.j1
   repeat' first
   | (with_reducible exact ih0 _ _ _)
   | (with_reducible exact ih1 _ _ _ _ _ _)
   | (with_reducible exact LeO.refl _)
   | (with_reducible exact LeO.none _)
   | (with_reducible refine LeO.ite ?_ ?_)
   | (with_reducible refine LeO.bind ?_ (fun _ => ?_))
   | exact ih0 _ _ _
   | exact ih1 _ _ _ _ _ _
   | exact LeO.none _
   | refine LeO.ite ?_ ?_
   | refine LeO.bind ?_ (fun _ => ?_)
theorem goods_Check.mono : ∀ a0 k, LeO (goods_Check.f k a0) (goods_Check.f (k + 1) a0) := by
 intro a0 k
 obtain ⟨ih0, ih1⟩ := goods_Check.mono_l k
 unfold goods_Check.f
 repeat' first
   | (with_reducible exact ih0 _ _ _)
   | (with_reducible exact ih1 _ _ _ _ _ _)
   | (with_reducible exact LeO.refl _)
   | (with_reducible exact LeO.none _)
   | (with_reducible refine LeO.ite ?_ ?_)
   | (with_reducible refine LeO.bind ?_ (fun _ => ?_))
   | exact ih0 _ _ _
   | exact ih1 _ _ _ _ _ _
   | exact LeO.none _
   | refine LeO.ite ?_ ?_
   | refine LeO.bind ?_ (fun _ => ?_)
set_option maxHeartbeats 8000000 in
set_option maxRecDepth 100000 in
theorem goods_Check.calls (k : Nat) (a0 : ByteArray) (r1 : Int) (r2 : Int) (w : World) (h : goods_Check.f k a0 = some (r1, r2)) :
  Calls Tryd.prog 75 #[.string a0] w fun e w' => e = .returned (.tuple #[.int .i64 r1, .int .i64 r2]) ∧ Drawn0 w w' := by
 have H : (if a0.toList = ([] : List UInt8) then (some (0, 20)) else (if (a0.size : Int) > 24 then (some (0, 21)) else (goods_Check.l0 k a0 (a0.size : Int) 0))) = some (r1, r2) := h
 clear h
 by_cases c2 : a0.toList = ([] : List UInt8)
 ·rw [if_pos c2] at H
  have c2b0 : (a0.toList == ([] : List UInt8)) = true := beq_iff_eq.mpr c2
  have c2b1 : (a0.toList != ([] : List UInt8)) = false := bne_eq_false_iff_eq.mpr c2
  clear c2
  simp only [Option.some.injEq, Prod.mk.injEq] at H
  obtain ⟨rfl, rfl⟩ := H
  go_enter Tryd.func75, Tryd.ntmps75
  go_wp2
  go_ret2
  exact ⟨by first | rfl | (simp; done) | (simp [*]; done), by repeat (first | exact Drawn0.refl _ | apply Drawn0.step)⟩
 ·rw [if_neg c2] at H
  have c2b0 : (a0.toList == ([] : List UInt8)) = false := beq_eq_false_iff_ne.mpr c2
  have c2b1 : (a0.toList != ([] : List UInt8)) = true := bne_iff_ne.mpr c2
  by_cases c3 : (a0.size : Int) > 24
  ·rw [if_pos c3] at H
   have c3b0 : decide (24 < (a0.size : Int)) = true := decide_eq_true c3
   have c3b1 : decide (24 < a0.size) = true := decide_eq_true (by omega)
   clear c3
   simp only [Option.some.injEq, Prod.mk.injEq] at H
   obtain ⟨rfl, rfl⟩ := H
   go_enter Tryd.func75, Tryd.ntmps75
   go_wp2
   go_ret2
   exact ⟨by first | rfl | (simp; done) | (simp [*]; done), by repeat (first | exact Drawn0.refl _ | apply Drawn0.step)⟩
  ·rw [if_neg c3] at H
   have c3b0 : decide (24 < (a0.size : Int)) = false := decide_eq_false c3
   have c3b1 : decide (24 < a0.size) = false := decide_eq_false (by omega)
   clear c3
   have H' := Aside0.mk H
   clear H
   go_enter Tryd.func75, Tryd.ntmps75
   go_wp2
   go_loopg [13] k (fun kq v13 w' => ∃ (x13_1 : Int), v13 = .int .i64 x13_1 ∧ Aside0 (goods_Check.l0 kq a0 (a0.size : Int) x13_1 = some (r1, r2)) ∧ Aside0 (kq ≤ k) ∧ Drawn0 w w')
   case atStart => exact ⟨(0), (by first | rfl | (simp; done) | (simp [*]; done)), H', ⟨Nat.le_refl _⟩, by repeat (first | exact Drawn0.refl _ | apply Drawn0.step)⟩
   case round =>
    clear H'
    try clear c2
    try clear c2b0
    try clear c2b1
    try clear p2
    try clear c3
    try clear c3b0
    try clear c3b1
    obtain ⟨x13_1, rfl, HA, HK1, ⟨m1, rfl⟩⟩ := hrel
    cases gk with
    | zero => exact absurd HA.out (by simp [goods_Check.l0])
    | succ k1 =>
     have H := HA.out
     clear HA
     simp only [goods_Check.l0] at H
     by_cases c4 : x13_1 < (a0.size : Int)
     ·rw [if_pos c4] at H
      have c4b0 : decide (x13_1 < (a0.size : Int)) = true := decide_eq_true c4
      clear c4
      by_cases c5 : 0 ≤ x13_1
      ·rw [if_pos c5] at H
       have c5b0 : decide (0 ≤ x13_1) = true := decide_eq_true c5
       clear c5
       by_cases c6 : x13_1 < (a0.size : Int)
       ·rw [if_pos c6] at H
        have c6b0 : decide (x13_1 < (a0.size : Int)) = true := decide_eq_true c6
        clear c6
        have HC8 := Aside0.mk H
        clear H
        have p7 : 0 ≤ (x13_1 : Int) := of_decide_eq_true (by first | (with_reducible assumption) | assumption)
        have q7 : x13_1 < (a0.size : Int) := of_decide_eq_true (by first | (with_reducible assumption) | assumption)
        have hx7 := bt_at a0 x13_1
        replace p7 := eq_true p7
        replace q7 := eq_true q7
        go_upto_region 9 with (fail)
        go_cut [24] (fun v24 wc => ∃ (kq : Nat) (x24_7 : Bool), v24 = .bool x24_7 ∧ Aside0 (goods_Check.j1 kq a0 x13_1 (bt a0 x13_1) (a0.size : Int) x13_1 x24_7 = some (r1, r2)) ∧ Aside0 (kq ≤ k1) ∧ Drawn0 w wc)
        case first =>
         have H := HC8.out
         clear HC8
         replace H := Option.bind_eq_some_iff.mp H
         obtain ⟨t606, A90, H⟩ := H
         replace H : (if t606 = true then (goods_Check.j1 k1 a0 x13_1 (bt a0 x13_1) (a0.size : Int) x13_1 true) else ((goods_isDigit.f (bt a0 x13_1)).bind fun t607 => (goods_Check.j1 k1 a0 x13_1 (bt a0 x13_1) (a0.size : Int) x13_1 t607))) = some (r1, r2) := H
         have A9 := Aside0.mk A90
         clear A90
         by_cases c10 : t606 = true
         ·subst c10
          have H1 : (goods_Check.j1 k1 a0 x13_1 (bt a0 x13_1) (a0.size : Int) x13_1 true) = some (r1, r2) := by rw [if_pos rfl] at H; exact H
          clear H
          have H := H1
          clear H1
          have H' := Aside0.mk H
          clear H
          go_wp2_with (first | ((with_reducible refine gate_callee (f := 89) rfl ?_); refine goesL_ (some 20) rfl rfl Tryd.func89 (by kernel_rfl) rfl #[.int .u8 (bt a0 x13_1)] rfl (by (try simp only [List.map_toArray, List.map_cons, List.map_nil]); first | done | rfl | (simp only [List.length_drop, List.length_take]; rfl)) ?_; (with_reducible refine (goods_isLetter.calls (bt a0 x13_1) true _ A9.out).mono ?_); rintro e w' ⟨rfl, ⟨nd, rfl⟩⟩; refine ⟨_, rfl, ?_⟩))
          go_meet
          case rel => exact ⟨_, (true), (by first | rfl | (simp; done) | (simp [*]; done)), H', ⟨by have := HK1.out; first | omega | exact Nat.le_refl _⟩, by repeat (first | exact Drawn0.refl _ | apply Drawn0.step)⟩
         ·replace c10 := Bool.eq_false_iff.mpr c10
          subst c10
          have H1 : ((goods_isDigit.f (bt a0 x13_1)).bind fun t607 => (goods_Check.j1 k1 a0 x13_1 (bt a0 x13_1) (a0.size : Int) x13_1 t607)) = some (r1, r2) := by rw [if_neg (show ¬ (false = true) by decide)] at H; exact H
          clear H
          have H := H1
          clear H1
          replace H := Option.bind_eq_some_iff.mp H
          obtain ⟨t607, A110, H⟩ := H
          replace H : (goods_Check.j1 k1 a0 x13_1 (bt a0 x13_1) (a0.size : Int) x13_1 t607) = some (r1, r2) := H
          have A11 := Aside0.mk A110
          clear A110
          have H' := Aside0.mk H
          clear H
          go_wp2_with (first | ((with_reducible refine gate_callee (f := 89) rfl ?_); refine goesL_ (some 20) rfl rfl Tryd.func89 (by kernel_rfl) rfl #[.int .u8 (bt a0 x13_1)] rfl (by (try simp only [List.map_toArray, List.map_cons, List.map_nil]); first | done | rfl | (simp only [List.length_drop, List.length_take]; rfl)) ?_; (with_reducible refine (goods_isLetter.calls (bt a0 x13_1) false _ A9.out).mono ?_); rintro e w' ⟨rfl, ⟨nd, rfl⟩⟩; refine ⟨_, rfl, ?_⟩) | (go_at_call 90; (with_reducible refine (goods_isDigit.calls (bt a0 x13_1) t607 _ A11.out).mono ?_); rintro e w' ⟨rfl, ⟨nd, rfl⟩⟩))
          go_meet
          case rel => exact ⟨_, (t607), (by first | rfl | (simp; done) | (simp [*]; done)), H', ⟨by have := HK1.out; first | omega | exact Nat.le_refl _⟩, by repeat (first | exact Drawn0.refl _ | apply Drawn0.step)⟩
        case rest =>
         clear HC8
         try clear c1
         try clear c2
         try clear c2b0
         try clear c2b1
         try clear p2
         try clear c3
         try clear c3b0
         try clear c3b1
         try clear c4
         try clear c4b0
         try clear c5
         try clear c5b0
         try clear c6
         try clear c6b0
         try clear c7
         try clear p7
         try clear q7
         try clear hx7
         try clear c8
         try clear c10
         try clear p2
         try clear p7
         try clear q7
         obtain ⟨kq, x24_7, rfl, HA, HJ7, ⟨mc7, rfl⟩⟩ := hcut
         cases kq with
         | zero => exact absurd HA.out (by simp [goods_Check.j1])
         | succ kj7 =>
          have H := HA.out
          clear HA
          simp only [goods_Check.j1] at H
          by_cases c12 : x24_7 = true
          ·subst c12
           have H1 : (goods_Check.l0 kj7 a0 (a0.size : Int) (wrap64 (x13_1 + 1))) = some (r1, r2) := by rw [if_pos rfl] at H; exact H
           clear H
           have H := H1
           clear H1
           have H' := Aside0.mk H
           clear H
           go_wp2
           go_roundg kj7
           case measure => have := HK1.out; have := HJ7.out; omega
           case rel => exact ⟨(wrap64 (x13_1 + 1)), (by first | rfl | (simp; done) | (simp [*]; done)), H', ⟨by have := HK1.out; have := HJ7.out; omega⟩, by repeat (first | exact Drawn0.refl _ | apply Drawn0.step)⟩
          ·replace c12 := Bool.eq_false_iff.mpr c12
           subst c12
           have H1 : ((goods_isMark.f (bt a0 x13_1)).bind fun t608 => (if t608 = true then (if x13_1 = 0 then (some (x13_1, 22)) else (if x13_1 = (wrap64 ((a0.size : Int) - 1)) then (some (x13_1, 22)) else (if 0 ≤ (wrap64 (x13_1 - 1)) then (if (wrap64 (x13_1 - 1)) < (a0.size : Int) then ((goods_isMark.f (bt a0 (wrap64 (x13_1 - 1)))).bind fun t609 => (if t609 = true then (some (x13_1, 22)) else (goods_Check.l0 kj7 a0 (a0.size : Int) (wrap64 (x13_1 + 1))))) else (none)) else (none)))) else (some (x13_1, 22)))) = some (r1, r2) := by rw [if_neg (show ¬ (false = true) by decide)] at H; exact H
           clear H
           have H := H1
           clear H1
           replace H := Option.bind_eq_some_iff.mp H
           obtain ⟨t608, A130, H⟩ := H
           replace H : (if t608 = true then (if x13_1 = 0 then (some (x13_1, 22)) else (if x13_1 = (wrap64 ((a0.size : Int) - 1)) then (some (x13_1, 22)) else (if 0 ≤ (wrap64 (x13_1 - 1)) then (if (wrap64 (x13_1 - 1)) < (a0.size : Int) then ((goods_isMark.f (bt a0 (wrap64 (x13_1 - 1)))).bind fun t609 => (if t609 = true then (some (x13_1, 22)) else (goods_Check.l0 kj7 a0 (a0.size : Int) (wrap64 (x13_1 + 1))))) else (none)) else (none)))) else (some (x13_1, 22))) = some (r1, r2) := H
           have A13 := Aside0.mk A130
           clear A130
           by_cases c14 : t608 = true
           ·subst c14
            have H1 : (if x13_1 = 0 then (some (x13_1, 22)) else (if x13_1 = (wrap64 ((a0.size : Int) - 1)) then (some (x13_1, 22)) else (if 0 ≤ (wrap64 (x13_1 - 1)) then (if (wrap64 (x13_1 - 1)) < (a0.size : Int) then ((goods_isMark.f (bt a0 (wrap64 (x13_1 - 1)))).bind fun t609 => (if t609 = true then (some (x13_1, 22)) else (goods_Check.l0 kj7 a0 (a0.size : Int) (wrap64 (x13_1 + 1))))) else (none)) else (none)))) = some (r1, r2) := by rw [if_pos rfl] at H; exact H
            clear H
            have H := H1
            clear H1
            by_cases c15 : x13_1 = 0
            ·rw [if_pos c15] at H
             have c15b0 : (x13_1 == 0) = true := beq_iff_eq.mpr c15
             have c15b1 : (x13_1 != 0) = false := bne_eq_false_iff_eq.mpr c15
             clear c15
             simp only [Option.some.injEq, Prod.mk.injEq] at H
             obtain ⟨rfl, rfl⟩ := H
             go_wp2_with (first | ((with_reducible refine gate_callee (f := 91) rfl ?_); refine goesL_ (some 26) rfl rfl Tryd.func91 (by kernel_rfl) rfl #[.int .u8 (bt a0 x13_1)] rfl (by (try simp only [List.map_toArray, List.map_cons, List.map_nil]); first | done | rfl | (simp only [List.length_drop, List.length_take]; rfl)) ?_; (with_reducible refine (goods_isMark.calls (bt a0 x13_1) true _ A13.out).mono ?_); rintro e w' ⟨rfl, ⟨nd, rfl⟩⟩; refine ⟨_, rfl, ?_⟩))
             go_ret2
             exact ⟨by first | rfl | (simp; done) | (simp [*]; done), by repeat (first | exact Drawn0.refl _ | apply Drawn0.step)⟩
            ·rw [if_neg c15] at H
             have c15b0 : (x13_1 == 0) = false := beq_eq_false_iff_ne.mpr c15
             have c15b1 : (x13_1 != 0) = true := bne_iff_ne.mpr c15
             by_cases c16 : x13_1 = (wrap64 ((a0.size : Int) - 1))
             ·rw [if_pos c16] at H
              have c16b0 : (x13_1 == (wrap64 ((a0.size : Int) - 1))) = true := beq_iff_eq.mpr c16
              have c16b1 : (x13_1 != (wrap64 ((a0.size : Int) - 1))) = false := bne_eq_false_iff_eq.mpr c16
              clear c16
              simp only [Option.some.injEq, Prod.mk.injEq] at H
              obtain ⟨rfl, rfl⟩ := H
              go_wp2_with (first | ((with_reducible refine gate_callee (f := 91) rfl ?_); refine goesL_ (some 26) rfl rfl Tryd.func91 (by kernel_rfl) rfl #[.int .u8 (bt a0 x13_1)] rfl (by (try simp only [List.map_toArray, List.map_cons, List.map_nil]); first | done | rfl | (simp only [List.length_drop, List.length_take]; rfl)) ?_; (with_reducible refine (goods_isMark.calls (bt a0 x13_1) true _ A13.out).mono ?_); rintro e w' ⟨rfl, ⟨nd, rfl⟩⟩; refine ⟨_, rfl, ?_⟩))
              go_ret2
              exact ⟨by first | rfl | (simp; done) | (simp [*]; done), by repeat (first | exact Drawn0.refl _ | apply Drawn0.step)⟩
             ·rw [if_neg c16] at H
              have c16b0 : (x13_1 == (wrap64 ((a0.size : Int) - 1))) = false := beq_eq_false_iff_ne.mpr c16
              have c16b1 : (x13_1 != (wrap64 ((a0.size : Int) - 1))) = true := bne_iff_ne.mpr c16
              obtain ⟨ji17, hji17⟩ : ∃ j_ : Int, (wrap64 (x13_1 - 1)) = j_ := ⟨_, rfl⟩
              replace H : (if 0 ≤ (ji17) then (if (ji17) < (a0.size : Int) then ((goods_isMark.f (bt a0 (ji17))).bind fun t609 => (if t609 = true then (some (x13_1, 22)) else (goods_Check.l0 kj7 a0 (a0.size : Int) (wrap64 (x13_1 + 1))))) else (none)) else (none)) = some (r1, r2) := by first | (rw [hji17] at H; exact H) | (simp only [hji17] at H ⊢; exact H)
              (try rw [hji17] at A13)
              have hji17w : (IntKind.i64.wrap (x13_1 - 1)) = ji17 := (i64_w _).trans hji17
              by_cases c18 : 0 ≤ (ji17)
              ·rw [if_pos c18] at H
               have c18b0 : decide (0 ≤ (ji17)) = true := decide_eq_true c18
               clear c18
               by_cases c19 : (ji17) < (a0.size : Int)
               ·rw [if_pos c19] at H
                have c19b0 : decide ((ji17) < (a0.size : Int)) = true := decide_eq_true c19
                clear c19
                replace H := Option.bind_eq_some_iff.mp H
                obtain ⟨t609, A210, H⟩ := H
                replace H : (if t609 = true then (some (x13_1, 22)) else (goods_Check.l0 kj7 a0 (a0.size : Int) (wrap64 (x13_1 + 1)))) = some (r1, r2) := H
                have A21 := Aside0.mk A210
                clear A210
                by_cases c22 : t609 = true
                ·subst c22
                 have H1 : (some (x13_1, 22)) = some (r1, r2) := by rw [if_pos rfl] at H; exact H
                 clear H
                 have H := H1
                 clear H1
                 simp only [Option.some.injEq, Prod.mk.injEq] at H
                 obtain ⟨rfl, rfl⟩ := H
                 go_wp2_with (first | ((with_reducible refine gate_callee (f := 91) rfl ?_); refine goesL_ (some 26) rfl rfl Tryd.func91 (by kernel_rfl) rfl #[.int .u8 (bt a0 x13_1)] rfl (by (try simp only [List.map_toArray, List.map_cons, List.map_nil]); first | done | rfl | (simp only [List.length_drop, List.length_take]; rfl)) ?_; (with_reducible refine (goods_isMark.calls (bt a0 x13_1) true _ A13.out).mono ?_); rintro e w' ⟨rfl, ⟨nd, rfl⟩⟩; refine ⟨_, rfl, ?_⟩; have p20 : 0 ≤ ((ji17) : Int) := of_decide_eq_true (by first | (with_reducible assumption) | assumption); have q20 : (ji17) < (a0.size : Int) := of_decide_eq_true (by first | (with_reducible assumption) | assumption); have hx20 := bt_at a0 (ji17); replace p20 := eq_true p20; replace q20 := eq_true q20) | (go_at_call 91; (with_reducible refine (goods_isMark.calls (bt a0 (ji17)) true _ A21.out).mono ?_); rintro e w' ⟨rfl, ⟨nd, rfl⟩⟩))
                 go_ret2
                 exact ⟨by first | rfl | (simp; done) | (simp only [← hji17] <;> (first | rfl | simp)) | (simp [*]; done), by repeat (first | exact Drawn0.refl _ | apply Drawn0.step)⟩
                ·replace c22 := Bool.eq_false_iff.mpr c22
                 subst c22
                 have H1 : (goods_Check.l0 kj7 a0 (a0.size : Int) (wrap64 (x13_1 + 1))) = some (r1, r2) := by rw [if_neg (show ¬ (false = true) by decide)] at H; exact H
                 clear H
                 have H := H1
                 clear H1
                 have H' := Aside0.mk H
                 clear H
                 go_wp2_with (first | ((with_reducible refine gate_callee (f := 91) rfl ?_); refine goesL_ (some 26) rfl rfl Tryd.func91 (by kernel_rfl) rfl #[.int .u8 (bt a0 x13_1)] rfl (by (try simp only [List.map_toArray, List.map_cons, List.map_nil]); first | done | rfl | (simp only [List.length_drop, List.length_take]; rfl)) ?_; (with_reducible refine (goods_isMark.calls (bt a0 x13_1) true _ A13.out).mono ?_); rintro e w' ⟨rfl, ⟨nd, rfl⟩⟩; refine ⟨_, rfl, ?_⟩; have p20 : 0 ≤ ((ji17) : Int) := of_decide_eq_true (by first | (with_reducible assumption) | assumption); have q20 : (ji17) < (a0.size : Int) := of_decide_eq_true (by first | (with_reducible assumption) | assumption); have hx20 := bt_at a0 (ji17); replace p20 := eq_true p20; replace q20 := eq_true q20) | (go_at_call 91; (with_reducible refine (goods_isMark.calls (bt a0 (ji17)) false _ A21.out).mono ?_); rintro e w' ⟨rfl, ⟨nd, rfl⟩⟩))
                 go_roundg kj7
                 case measure => have := HK1.out; have := HJ7.out; omega
                 case rel => exact ⟨(wrap64 (x13_1 + 1)), (by first | rfl | (simp; done) | (simp [*]; done)), H', ⟨by have := HK1.out; have := HJ7.out; omega⟩, by repeat (first | exact Drawn0.refl _ | apply Drawn0.step)⟩
               ·rw [if_neg c19] at H
                exact absurd H (by simp)
              ·rw [if_neg c18] at H
               exact absurd H (by simp)
           ·replace c14 := Bool.eq_false_iff.mpr c14
            subst c14
            have H1 : (some (x13_1, 22)) = some (r1, r2) := by rw [if_neg (show ¬ (false = true) by decide)] at H; exact H
            clear H
            have H := H1
            clear H1
            simp only [Option.some.injEq, Prod.mk.injEq] at H
            obtain ⟨rfl, rfl⟩ := H
            go_wp2_with (first | ((with_reducible refine gate_callee (f := 91) rfl ?_); refine goesL_ (some 26) rfl rfl Tryd.func91 (by kernel_rfl) rfl #[.int .u8 (bt a0 x13_1)] rfl (by (try simp only [List.map_toArray, List.map_cons, List.map_nil]); first | done | rfl | (simp only [List.length_drop, List.length_take]; rfl)) ?_; (with_reducible refine (goods_isMark.calls (bt a0 x13_1) false _ A13.out).mono ?_); rintro e w' ⟨rfl, ⟨nd, rfl⟩⟩; refine ⟨_, rfl, ?_⟩))
            go_ret2
            exact ⟨by first | rfl | (simp; done) | (simp [*]; done), by repeat (first | exact Drawn0.refl _ | apply Drawn0.step)⟩
       ·rw [if_neg c6] at H
        exact absurd H (by simp)
      ·rw [if_neg c5] at H
       exact absurd H (by simp)
     ·rw [if_neg c4] at H
      have c4b0 : decide (x13_1 < (a0.size : Int)) = false := decide_eq_false c4
      clear c4
      simp only [Option.some.injEq, Prod.mk.injEq] at H
      obtain ⟨rfl, rfl⟩ := H
      go_wp2
      go_ret2
      exact ⟨by first | rfl | (simp; done) | (simp [*]; done), by repeat (first | exact Drawn0.refl _ | apply Drawn0.step)⟩
end Go.Proofs.YtlmdhpfggobogaaDoor.G

namespace Go.Proofs.YtlmdhpfggobogaaDoor.G
open Go.RowKit Go.Proofs.YtlmdhpfggobogaaDoorW.PrintWords Go.Proofs.YtlmdhpfggobogaaDoorW.PrintLast Go.Proofs.YtlmdhpfggobogaaDoorW.PrintMore
attribute [local go_sem] max2_int min2_int max_two min_two max_three min_three max_four min_four   -- for this text's walks alone
set_option linter.unusedVariables false
set_option linter.unusedSimpArgs false
def goods_Good.f (k : Nat) (a0 : ByteArray) : Option (Bool) := (goods_Check.f k a0).bind fun bt610 => (some (bt610.2 == 0))
theorem goods_Good.mono : ∀ a0 k, LeO (goods_Good.f k a0) (goods_Good.f (k + 1) a0) := by
 intro a0 k
 unfold goods_Good.f
 repeat' first
   | (with_reducible exact goods_Check.mono _ _)
   | (with_reducible exact LeO.refl _)
   | (with_reducible exact LeO.none _)
   | (with_reducible refine LeO.ite ?_ ?_)
   | (with_reducible refine LeO.bind ?_ (fun _ => ?_))
   | exact goods_Check.mono _ _
   | exact LeO.none _
   | refine LeO.ite ?_ ?_
   | refine LeO.bind ?_ (fun _ => ?_)
set_option maxHeartbeats 8000000 in
set_option maxRecDepth 100000 in
theorem goods_Good.calls (k : Nat) (a0 : ByteArray) (r : Bool) (w : World) (h : goods_Good.f k a0 = some r) :
  Calls Tryd.prog 63 #[.string a0] w fun e w' => e = .returned (.bool r) ∧ Drawn0 w w' := by
 have H : ((goods_Check.f k a0).bind fun bt610 => (some (bt610.2 == 0))) = some r := h
 clear h
 replace H := Option.bind_eq_some_iff.mp H
 obtain ⟨⟨t610, t611⟩, A20, H⟩ := H
 replace H : (some (t611 == 0)) = some r := H
 have A2 := Aside0.mk A20
 clear A20
 obtain rfl := Option.some.inj H
 go_enter Tryd.func63, Tryd.ntmps63
 go_wp2_with (first | ((with_reducible refine gate_callee (f := 75) rfl ?_); refine goesL_ (some 7) rfl rfl Tryd.func75 (by kernel_rfl) rfl #[.string a0] rfl (by (try simp only [List.map_toArray, List.map_cons, List.map_nil]); first | done | rfl | (simp only [List.length_drop, List.length_take]; rfl)) ?_; (with_reducible refine (goods_Check.calls k a0 t610 t611 _ A2.out).mono ?_); rintro e w' ⟨rfl, ⟨nd, rfl⟩⟩; refine ⟨_, rfl, ?_⟩))
 go_ret
 exact ⟨by first | rfl | (simp; done) | (simp [*]; done), by repeat (first | exact Drawn0.refl _ | apply Drawn0.step)⟩
end Go.Proofs.YtlmdhpfggobogaaDoor.G

namespace Go.Proofs.YtlmdhpfggobogaaDoor.G
open Go.RowKit Go.Proofs.YtlmdhpfggobogaaDoorW.PrintWords Go.Proofs.YtlmdhpfggobogaaDoorW.PrintLast
def isMarkI (c : Int) : Bool := decide (c = 45 ∨ c = 46)
def letterI (c : Int) : Bool := decide (65 ≤ c ∧ c ≤ 90)
def digitI (c : Int) : Bool := decide (48 ≤ c ∧ c ≤ 57)
theorem isLetter_eq (c : Int) : goods_isLetter.f c = some (letterI c) := by
  unfold goods_isLetter.f letterI
  by_cases h : 65 ≤ c
  · rw [if_pos h]; simp [h]
  · rw [if_neg h]; simp [h]
theorem isDigit_eq (c : Int) : goods_isDigit.f c = some (digitI c) := by
  unfold goods_isDigit.f digitI
  by_cases h : 48 ≤ c
  · rw [if_pos h]; simp [h]
  · rw [if_neg h]; simp [h]
theorem isMark_eq (c : Int) : goods_isMark.f c = some (isMarkI c) := by
  unfold goods_isMark.f isMarkI
  by_cases h45 : c = 45
  · rw [if_pos h45]; simp [h45]
  · rw [if_neg h45]; simp [h45]; rfl
theorem bytesOf_length (s : ByteArray) : (bytesOf s).length = s.size := by simp [bytesOf]
theorem bytesOf_range (s : ByteArray) : ∀ c ∈ bytesOf s, 0 ≤ c ∧ c ≤ 255 := by
  intro c hc
  simp only [bytesOf, List.mem_map] at hc
  obtain ⟨b, _, rfl⟩ := hc
  have := b.toNat_lt
  omega
theorem bt_getD (s : ByteArray) (i : Int) : bt s i = (bytesOf s).getD i.toNat 0 := by
  unfold bt bytesOf
  by_cases h : i.toNat < s.size
  · rw [dif_pos h, List.getD_eq_getElem?_getD, List.getElem?_map]
    rw [List.getElem?_eq_getElem (by simpa using h)]
    rfl
  · rw [dif_neg h, List.getD_eq_getElem?_getD, List.getElem?_eq_none (by simp; omega)]
    rfl
theorem bytesOf_drop (s : ByteArray) (i : Nat) (h : i < s.size) : (bytesOf s).drop i = bt s i :: (bytesOf s).drop (i + 1) := by
  rw [List.drop_eq_getElem_cons (by rw [bytesOf_length]; exact h), bt_getD, List.getD_eq_getElem?_getD, List.getElem?_eq_getElem (by rw [bytesOf_length]; simpa using h)]
  simp
theorem bytesOf_inj {s t : ByteArray} (h : bytesOf s = bytesOf t) : s = t := by
  have : s.data.toList = t.data.toList := by
    unfold bytesOf at h
    have inj : ∀ (a b : List UInt8), (a.map fun c => (c.toNat : Int)) = (b.map fun c => (c.toNat : Int)) → a = b := by
      intro a
      induction a with
      | nil => intro b h; cases b with
        | nil => rfl
        | cons y u => simp at h
      | cons x t ih => intro b h; cases b with
        | nil => simp at h
        | cons y u =>
          simp only [List.map_cons, List.cons.injEq] at h
          have hx : x = y := UInt8.toNat_inj.1 (by omega)
          rw [hx, ih u h.2]
    exact inj _ _ h
  cases s; cases t
  simp only [ByteArray.mk.injEq]
  exact Array.toList_inj.1 this
theorem bytesOf_str (l : List Int) (h : ∀ c ∈ l, 0 ≤ c ∧ c ≤ 255) : bytesOf (strOfNums l) = l := by
  unfold bytesOf strOfNums
  simp only [List.map_map]
  conv => rhs; rw [← List.map_id l]
  refine List.map_congr_left fun c hc => ?_
  have := h c hc
  simp only [Function.comp, id]
  rw [UInt8.toNat_ofNat']
  omega
theorem str_bytesOf (s : ByteArray) : strOfNums (bytesOf s) = s := bytesOf_inj (bytesOf_str _ (bytesOf_range s))
def checkGo : Bool → Int → List Int → Int × Int
  | _, _, [] => (0, 0)
  | pm, i, c :: t => if (letterI c || digitI c) = true then checkGo false (i + 1) t else if (isMarkI c && !pm && !t.isEmpty) = true then checkGo true (i + 1) t else (i, 22)
def checkL (l : List Int) : Int × Int := if l = [] then (0, 20) else if 24 < l.length then (0, 21) else checkGo true 0 l
theorem check_l0 (s : ByteArray) (hs : s.size ≤ 24) : ∀ (d i k : Nat), i + d = s.size → 2 * d < k →
    goods_Check.l0 k s (s.size : Int) i = some (checkGo (decide (i = 0) || isMarkI (bt s ((i : Int) - 1))) i ((bytesOf s).drop i))
  | 0, i, k, hd, hk => by
    obtain ⟨k, rfl⟩ : ∃ m, k = m + 1 := ⟨k - 1, by omega⟩
    have : (bytesOf s).drop i = [] := List.drop_eq_nil_of_le (by rw [bytesOf_length]; omega)
    rw [this]
    simp only [goods_Check.l0]
    rw [if_neg (by omega)]
    rfl
  | d + 1, i, k, hd, hk => by
    obtain ⟨k, rfl⟩ : ∃ m, k = m + 2 := ⟨k - 2, by omega⟩
    have ih := check_l0 s hs d (i + 1) k (by omega) (by omega)
    have hw1 : wrap64 ((i : Int) + 1) = ((i + 1 : Nat) : Int) := by unfold wrap64; omega
    have hw2 : wrap64 ((i : Int) - 1) = (i : Int) - 1 := by unfold wrap64; omega
    have hw3 : wrap64 ((s.size : Int) - 1) = (s.size : Int) - 1 := by unfold wrap64; omega
    rw [bytesOf_drop s i (by omega)]
    have hdec : decide ((i + 1) = 0) = false := by simp
    rw [hdec, Bool.false_or, show (((i + 1 : Nat) : Int) - 1) = i from by omega] at ih
    have hj : ∀ b, goods_Check.j1 (k + 1) s (i : Int) (bt s i) (s.size : Int) (i : Int) b = some (if b = true then checkGo (isMarkI (bt s i)) ((i : Int) + 1) ((bytesOf s).drop (i + 1)) else if (isMarkI (bt s i) && !(decide (i = 0) || isMarkI (bt s ((i : Int) - 1))) && !((bytesOf s).drop (i + 1)).isEmpty) = true then checkGo true ((i : Int) + 1) ((bytesOf s).drop (i + 1)) else ((i : Int), 22)) := by
      intro b
      simp only [goods_Check.j1]
      rw [hw1, hw2, hw3, isMark_eq, isMark_eq, ih]
      by_cases hb : b = true
      · rw [if_pos hb, if_pos hb]; rfl
      · rw [if_neg hb, if_neg hb]
        simp only [Option.bind_some]
        have hemp : ((bytesOf s).drop (i + 1)).isEmpty = decide (d = 0) := by
          rw [Bool.eq_iff_iff, List.isEmpty_iff, decide_eq_true_eq, List.drop_eq_nil_iff, bytesOf_length]; omega
        rw [hemp]
        by_cases hm : isMarkI (bt s i) = true
        · rw [if_pos hm, hm, Bool.true_and]
          by_cases h0 : i = 0
          · subst h0
            rw [if_pos (by omega)]
            simp
          · rw [if_neg (by omega)]
            by_cases hd0 : d = 0
            · rw [if_pos (by omega)]
              simp [hd0]
            · rw [if_neg (by omega), if_pos (by omega), if_pos (by omega)]
              by_cases hp : isMarkI (bt s ((i : Int) - 1)) = true
              · rw [if_pos hp]; simp [hp]
              · rw [if_neg hp]
                have hp' : isMarkI (bt s ((i : Int) - 1)) = false := by simpa using hp
                simp [hp', h0, hd0]
        · rw [if_neg hm]
          have hm' : isMarkI (bt s i) = false := by simpa using hm
          simp [hm']
    simp only [goods_Check.l0, checkGo]
    rw [if_pos (by omega), if_pos (by omega), if_pos (by omega), isLetter_eq, isDigit_eq]
    simp only [Option.bind_some]
    have hmf : (letterI (bt s i) || digitI (bt s i)) = true → isMarkI (bt s i) = false := by
      intro h
      unfold letterI digitI at h
      unfold isMarkI
      simp at h ⊢
      omega
    by_cases hl : letterI (bt s i) = true
    · rw [if_pos hl, hj, if_pos rfl, hl, Bool.true_or, if_pos rfl, hmf (by rw [hl]; rfl)]
    · rw [if_neg hl, hj]
      have hl' : letterI (bt s i) = false := by simpa using hl
      rw [hl', Bool.false_or]
      by_cases hdg : digitI (bt s i) = true
      · rw [if_pos hdg, if_pos hdg, hmf (by rw [hdg]; simp)]
      · rw [if_neg hdg, if_neg hdg]
theorem check_eq (s : ByteArray) (k : Nat) (hk : 48 < k) : goods_Check.f k s = some (checkL (bytesOf s)) := by
  unfold goods_Check.f checkL
  have hn : s.toList = [] ↔ bytesOf s = [] := by
    rw [← List.length_eq_zero_iff, ← List.length_eq_zero_iff, bytesOf_length]
    rw [ByteArray.toList_eq s]
    simp
  by_cases h0 : bytesOf s = []
  · rw [if_pos (hn.2 h0), if_pos h0]
  · rw [if_neg (fun h => h0 (hn.1 h)), if_neg h0, bytesOf_length]
    by_cases h24 : 24 < s.size
    · rw [if_pos (by omega), if_pos h24]
    · rw [if_neg (by omega), if_neg h24]
      have := check_l0 s (by omega) s.size 0 k (by omega) (by omega)
      simpa using this
theorem rletter_eq (c : Int) : barrowref02_letter.f c = some (letterI c) := by
  unfold barrowref02_letter.f letterI
  by_cases h : c ≥ 65
  · rw [if_pos h]; simp; omega
  · rw [if_neg h]; simp; omega
theorem rdigit_eq (c : Int) : barrowref02_digit.f c = some (digitI c) := by
  unfold barrowref02_digit.f digitI
  by_cases h : c ≥ 48
  · rw [if_pos h]; simp; omega
  · rw [if_neg h]; simp; omega
theorem rmark_eq (c : Int) : barrowref02_mark.f c = some (isMarkI c) := by
  unfold barrowref02_mark.f isMarkI
  by_cases h45 : c = 45
  · rw [if_pos h45]; simp [h45]
  · rw [if_neg h45]; simp [h45]; rfl
theorem stands_eq (s : ByteArray) (hs : s.size ≤ 24) (i : Nat) (hi : i < s.size) (k : Nat) :
    barrowref02_stands.f (k + 1) s i = some ((letterI (bt s i) || digitI (bt s i)) || (isMarkI (bt s i) && !(decide (i = 0) || isMarkI (bt s ((i : Int) - 1))) && !((bytesOf s).drop (i + 1)).isEmpty)) := by
  have hw2 : wrap64 ((i : Int) - 1) = (i : Int) - 1 := by unfold wrap64; omega
  have hw3 : wrap64 ((s.size : Int) - 1) = (s.size : Int) - 1 := by unfold wrap64; omega
  have hemp : ((bytesOf s).drop (i + 1)).isEmpty = decide (i + 1 = s.size) := by
    rw [Bool.eq_iff_iff, List.isEmpty_iff, decide_eq_true_eq, List.drop_eq_nil_iff, bytesOf_length]; omega
  have hj : ∀ b, barrowref02_stands.j0 (k + 1) s i (bt s i) b = some (b || (isMarkI (bt s i) && !(decide (i = 0) || isMarkI (bt s ((i : Int) - 1))) && !((bytesOf s).drop (i + 1)).isEmpty)) := by
    intro b
    rw [barrowref02_stands.j0, hw2, hw3, rmark_eq, rmark_eq, hemp]
    clear hw2 hw3
    cases b with
    | true => simp
    | false =>
      rw [if_neg (by decide), Option.bind_some]
      by_cases hm : isMarkI (bt s i) = true
      · rw [if_pos hm, hm]
        by_cases h0 : i = 0
        · subst h0; simp
        · rw [if_neg (by omega)]
          by_cases h1 : i + 1 = s.size
          · rw [if_pos (by omega)]; simp [h1]
          · rw [if_neg (by omega), if_pos (by omega), if_pos (by omega)]; simp [h0, h1]
      · rw [if_neg hm]
        have hm' : isMarkI (bt s i) = false := by simpa using hm
        simp [hm']
  rw [barrowref02_stands.f, if_pos (by omega), if_pos (by omega), rletter_eq, rdigit_eq, Option.bind_some, Option.bind_some, hj, hj]
  by_cases hl : letterI (bt s i) = true
  · rw [if_pos hl, hl]; simp
  · rw [if_neg hl]
    have hl' : letterI (bt s i) = false := by simpa using hl
    rw [hl', Bool.false_or]
theorem rcheck_l0 (s : ByteArray) (hs : s.size ≤ 24) : ∀ (d i k : Nat), i + d = s.size → d + 1 < k →
    barrowref02_Check.l0 k s i = some (checkGo (decide (i = 0) || isMarkI (bt s ((i : Int) - 1))) i ((bytesOf s).drop i))
  | 0, i, k, hd, hk => by
    obtain ⟨k, rfl⟩ : ∃ m, k = m + 1 := ⟨k - 1, by omega⟩
    have : (bytesOf s).drop i = [] := List.drop_eq_nil_of_le (by rw [bytesOf_length]; omega)
    rw [this, barrowref02_Check.l0, if_neg (by omega)]
    rfl
  | d + 1, i, k, hd, hk => by
    obtain ⟨k, rfl⟩ : ∃ m, k = m + 2 := ⟨k - 2, by omega⟩
    have ih := rcheck_l0 s hs d (i + 1) (k + 1) (by omega) (by omega)
    have hw1 : wrap64 ((i : Int) + 1) = ((i + 1 : Nat) : Int) := by unfold wrap64; omega
    have hdec : decide ((i + 1) = 0) = false := by simp
    rw [hdec, Bool.false_or, show (((i + 1 : Nat) : Int) - 1) = i from by clear hw1; omega] at ih
    rw [barrowref02_Check.l0, if_pos (by clear hw1; omega), stands_eq s hs i (by omega), Option.bind_some, hw1, ih, bytesOf_drop s i (by omega)]
    have hmf : (letterI (bt s i) || digitI (bt s i)) = true → isMarkI (bt s i) = false := by
      intro h
      unfold letterI digitI at h
      unfold isMarkI
      simp at h ⊢
      clear hw1
      omega
    rw [checkGo]
    by_cases hl : (letterI (bt s i) || digitI (bt s i)) = true
    · rw [if_pos (by rw [hl]; rfl), if_pos hl, hmf hl]; rfl
    · have hl' : (letterI (bt s i) || digitI (bt s i)) = false := by simpa using hl
      rw [if_neg hl, hl', Bool.false_or]
      by_cases hc : (isMarkI (bt s i) && !(decide (i = 0) || isMarkI (bt s ((i : Int) - 1))) && !((bytesOf s).drop (i + 1)).isEmpty) = true
      · rw [if_pos hc, if_pos hc]
        have : isMarkI (bt s i) = true := by simp at hc; exact hc.1.1
        rw [this]; rfl
      · rw [if_neg hc, if_neg hc]
theorem rcheck_eq (s : ByteArray) (k : Nat) (hk : 48 < k) : barrowref02_Check.f k s = some (checkL (bytesOf s)) := by
  unfold barrowref02_Check.f checkL
  by_cases h0 : bytesOf s = []
  · have : s.size = 0 := by rw [← bytesOf_length, h0]; rfl
    rw [if_pos (by omega), if_pos h0]
  · have : s.size ≠ 0 := by intro e; exact h0 (List.length_eq_zero_iff.1 (by rw [bytesOf_length]; exact e))
    rw [if_neg (by omega), if_neg h0, bytesOf_length]
    by_cases h24 : 24 < s.size
    · rw [if_pos (by omega), if_pos h24]
    · rw [if_neg (by omega), if_neg h24]
      have := rcheck_l0 s (by omega) s.size 0 k (by omega) (by omega)
      simpa using this
end Go.Proofs.YtlmdhpfggobogaaDoor.G

namespace Go.Proofs.YtlmdhpfggobogaaDoor.G
open Go.RowKit Go.Proofs.YtlmdhpfggobogaaDoorW.PrintWords Go.Proofs.YtlmdhpfggobogaaDoorW.PrintLast Go.Proofs.YtlmdhpfggobogaaDoorW.PrintMore
attribute [local go_sem] max2_int min2_int max_two min_two max_three min_three max_four min_four   -- for this text's walks alone
set_option linter.unusedVariables false
set_option linter.unusedSimpArgs false
end Go.Proofs.YtlmdhpfggobogaaDoor.G

namespace Go.Proofs.YtlmdhpfggobogaaDoor.G
open Go.RowKit Go.Proofs.YtlmdhpfggobogaaDoorW.PrintWords Go.Proofs.YtlmdhpfggobogaaDoorW.PrintLast Go.Proofs.YtlmdhpfggobogaaDoorW.PrintMore
attribute [local go_sem] max2_int min2_int max_two min_two max_three min_three max_four min_four   -- for this text's walks alone
set_option linter.unusedVariables false
set_option linter.unusedSimpArgs false
end Go.Proofs.YtlmdhpfggobogaaDoor.G

namespace Go.Proofs.YtlmdhpfggobogaaDoor.G
open Go.RowKit Go.Proofs.YtlmdhpfggobogaaDoorW.PrintWords Go.Proofs.YtlmdhpfggobogaaDoorW.PrintLast Go.Proofs.YtlmdhpfggobogaaDoorW.PrintMore
attribute [local go_sem] max2_int min2_int max_two min_two max_three min_three max_four min_four   -- for this text's walks alone
set_option linter.unusedVariables false
set_option linter.unusedSimpArgs false
end Go.Proofs.YtlmdhpfggobogaaDoor.G

namespace Go.Proofs.YtlmdhpfggobogaaDoor.G
open Go.RowKit Go.Proofs.YtlmdhpfggobogaaDoorW.PrintWords Go.Proofs.YtlmdhpfggobogaaDoorW.PrintLast Go.Proofs.YtlmdhpfggobogaaDoorW.PrintMore
attribute [local go_sem] max2_int min2_int max_two min_two max_three min_three max_four min_four   -- for this text's walks alone
set_option linter.unusedVariables false
set_option linter.unusedSimpArgs false
def script_literal.f (a0 : Int) : Option (Bool) := if a0 ≥ 33 then (if a0 ≤ 126 then (if a0 = 34 then (some false) else (some (a0 != 92))) else (some false)) else (some false)
set_option maxHeartbeats 8000000 in
set_option maxRecDepth 100000 in
theorem script_literal.calls (a0 : Int) (r : Bool) (w : World) (h : script_literal.f a0 = some r) :
  Calls Tryd.prog 64 #[.int .u8 a0] w fun e w' => e = .returned (.bool r) ∧ Drawn0 w w' := by
 have H : (if a0 ≥ 33 then (if a0 ≤ 126 then (if a0 = 34 then (some false) else (some (a0 != 92))) else (some false)) else (some false)) = some r := h
 clear h
 by_cases c2 : a0 ≥ 33
 ·rw [if_pos c2] at H
  have c2b0 : decide (33 ≤ a0) = true := decide_eq_true c2
  clear c2
  by_cases c3 : a0 ≤ 126
  ·rw [if_pos c3] at H
   have c3b0 : decide (a0 ≤ 126) = true := decide_eq_true c3
   clear c3
   by_cases c4 : a0 = 34
   ·rw [if_pos c4] at H
    have c4b0 : (a0 == 34) = true := beq_iff_eq.mpr c4
    have c4b1 : (a0 != 34) = false := bne_eq_false_iff_eq.mpr c4
    clear c4
    obtain rfl := Option.some.inj H
    go_enter Tryd.func64, Tryd.ntmps64
    go_wp2
    go_ret
    exact ⟨by first | rfl | (simp; done) | (simp [*]; done), by repeat (first | exact Drawn0.refl _ | apply Drawn0.step)⟩
   ·rw [if_neg c4] at H
    have c4b0 : (a0 == 34) = false := beq_eq_false_iff_ne.mpr c4
    have c4b1 : (a0 != 34) = true := bne_iff_ne.mpr c4
    obtain rfl := Option.some.inj H
    go_enter Tryd.func64, Tryd.ntmps64
    go_wp2
    go_ret
    exact ⟨by first | rfl | (simp; done) | (simp [*]; done), by repeat (first | exact Drawn0.refl _ | apply Drawn0.step)⟩
  ·rw [if_neg c3] at H
   have c3b0 : decide (a0 ≤ 126) = false := decide_eq_false c3
   clear c3
   obtain rfl := Option.some.inj H
   go_enter Tryd.func64, Tryd.ntmps64
   go_wp2
   go_ret
   exact ⟨by first | rfl | (simp; done) | (simp [*]; done), by repeat (first | exact Drawn0.refl _ | apply Drawn0.step)⟩
 ·rw [if_neg c2] at H
  have c2b0 : decide (33 ≤ a0) = false := decide_eq_false c2
  clear c2
  obtain rfl := Option.some.inj H
  go_enter Tryd.func64, Tryd.ntmps64
  go_wp2
  go_ret
  exact ⟨by first | rfl | (simp; done) | (simp [*]; done), by repeat (first | exact Drawn0.refl _ | apply Drawn0.step)⟩
end Go.Proofs.YtlmdhpfggobogaaDoor.G

namespace Go.Proofs.YtlmdhpfggobogaaDoor.G
open Go.RowKit Go.Proofs.YtlmdhpfggobogaaDoorW.PrintWords Go.Proofs.YtlmdhpfggobogaaDoorW.PrintLast Go.Proofs.YtlmdhpfggobogaaDoorW.PrintMore
attribute [local go_sem] max2_int min2_int max_two min_two max_three min_three max_four min_four   -- for this text's walks alone
set_option linter.unusedVariables false
set_option linter.unusedSimpArgs false
end Go.Proofs.YtlmdhpfggobogaaDoor.G

namespace Go.Proofs.YtlmdhpfggobogaaDoor.G
open Go.RowKit Go.Proofs.YtlmdhpfggobogaaDoorW.PrintWords Go.Proofs.YtlmdhpfggobogaaDoorW.PrintLast Go.Proofs.YtlmdhpfggobogaaDoorW.PrintMore
set_option linter.unusedVariables false
def fldOff (c : Int) : Nat := if c = 114 then 1 else if c = 99 then 2 else if c = 116 then 3 else if c = 113 then 5 else if c = 110 then 6 else 0
set_option maxHeartbeats 1000000 in
set_option maxRecDepth 100000 in
theorem script_field.calls (b : Nat) (c : Int) (w : World) (hc : c = 114 ∨ c = 99 ∨ c = 116 ∨ c = 113 ∨ c = 110 ∨ c = 107) :
    Calls Tryd.prog 43 #[.pointer (some ⟨b, 0, none⟩), .int .i32 c] w fun e w' => e = .returned (.pointer (some ⟨b, fldOff c, none⟩)) ∧ w' = w := by
  rcases hc with rfl | rfl | rfl | rfl | rfl | rfl
  all_goals (go_enter Tryd.func43, Tryd.ntmps43; go_wp2; go_ret; exact ⟨rfl, rfl⟩)
end Go.Proofs.YtlmdhpfggobogaaDoor.G
