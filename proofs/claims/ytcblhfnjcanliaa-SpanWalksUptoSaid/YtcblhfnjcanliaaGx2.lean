-- PRINTED by print.py (a twelfth state) out of the translation. Not trusted: Lean checks it.
import Derived.Test.YtcblhfnjcanliaaGx0
namespace Go.Proofs.Ytcblhfnjcanliaa.G
open Go.RowKit Go.Proofs.YtcblhfnjcanliaaW.PrintWords Go.Proofs.YtcblhfnjcanliaaW.PrintLast Go.Proofs.YtcblhfnjcanliaaW.PrintMore
attribute [local go_sem] max2_int min2_int max_two min_two max_three min_three max_four min_four   -- for this text's walks alone
set_option linter.unusedVariables false
set_option linter.unusedSimpArgs false

/-! ### barrowref01_sorted: function 12 -/
mutual
def barrowref01_sorted.l0 : Nat → List (S40) → Int → Int → Option ((List (S40)))
 | 0, _, _, _ => none
 | k + 1, x0, x3, x4 => if x4 < x3 then (if 0 ≤ x3 then (if (x3 : Int).toNat ≤ 11728124029610 then (barrowref01_sorted.l1 k x0 x3 x4 (([] : List (S40))) 0) else (none)) else (none)) else (some x0)
def barrowref01_sorted.l1 : Nat → List (S40) → Int → Int → List (S40) → Int → Option ((List (S40)))
 | 0, _, _, _, _, _ => none
 | k + 1, x0, x3, x4, x5, x6 => if x6 < x3 then (if (wrap64 (x6 + x4)) > x3 then (barrowref01_sorted.j2 k x0 x3 x4 x5 x6 x3) else (barrowref01_sorted.j2 k x0 x3 x4 x5 x6 (wrap64 (x6 + x4)))) else (barrowref01_sorted.l0 k x5 x3 (wrap64 (2 * x4)))
def barrowref01_sorted.j2 : Nat → List (S40) → Int → Int → List (S40) → Int → Int → Option ((List (S40)))
 | 0, _, _, _, _, _, _ => none
 | k + 1, x0, x3, x4, x5, x6, x7 => if (wrap64 (x7 + x4)) > x3 then (barrowref01_sorted.j3 k x0 x3 x4 x5 x6 x7 x3) else (barrowref01_sorted.j3 k x0 x3 x4 x5 x6 x7 (wrap64 (x7 + x4)))
def barrowref01_sorted.j3 : Nat → List (S40) → Int → Int → List (S40) → Int → Int → Int → Option ((List (S40)))
 | 0, _, _, _, _, _, _, _ => none
 | k + 1, x0, x3, x4, x5, x6, x7, x8 => barrowref01_sorted.l2 k x0 x3 x4 x5 x6 x7 x8 x6 x7
def barrowref01_sorted.l2 : Nat → List (S40) → Int → Int → List (S40) → Int → Int → Int → Int → Int → Option ((List (S40)))
 | 0, _, _, _, _, _, _, _, _, _ => none
 | k + 1, x0, x3, x4, x5, x6, x7, x8, x9, x10 => if x9 < x7 then (barrowref01_sorted.j5 k x0 x3 x4 x5 x6 x7 x8 x9 x10 true) else (barrowref01_sorted.j5 k x0 x3 x4 x5 x6 x7 x8 x9 x10 (decide (x10 < x8)))
def barrowref01_sorted.j5 : Nat → List (S40) → Int → Int → List (S40) → Int → Int → Int → Int → Int → Bool → Option ((List (S40)))
 | 0, _, _, _, _, _, _, _, _, _, _ => none
 | k + 1, x0, x3, x4, x5, x6, x7, x8, x9, x10, x50 => if x50 = true then (if x10 ≥ x8 then (if 0 ≤ x9 then (if x9 < (x0.length : Int) then (if x5.length < 5864062014805 then (barrowref01_sorted.l2 k x0 x3 x4 (x5 ++ [(⟨(rd_T40 x0 x9).f0, (rd_T40 x0 x9).f1, (rd_T40 x0 x9).f2⟩ : S40)]) x6 x7 x8 (wrap64 (x9 + 1)) x10) else (none)) else (none)) else (none)) else (if x9 < x7 then (if 0 ≤ x9 then (if x9 < (x0.length : Int) then (if 0 ≤ x10 then (if x10 < (x0.length : Int) then (if ((rd_T40 x0 x9).f0) ≤ ((rd_T40 x0 x10).f0) then (if x5.length < 5864062014805 then (barrowref01_sorted.l2 k x0 x3 x4 (x5 ++ [(⟨(rd_T40 x0 x9).f0, (rd_T40 x0 x9).f1, (rd_T40 x0 x9).f2⟩ : S40)]) x6 x7 x8 (wrap64 (x9 + 1)) x10) else (none)) else (if x5.length < 5864062014805 then (barrowref01_sorted.l2 k x0 x3 x4 (x5 ++ [(⟨(rd_T40 x0 x10).f0, (rd_T40 x0 x10).f1, (rd_T40 x0 x10).f2⟩ : S40)]) x6 x7 x8 x9 (wrap64 (x10 + 1))) else (none))) else (none)) else (none)) else (none)) else (none)) else (if 0 ≤ x10 then (if x10 < (x0.length : Int) then (if x5.length < 5864062014805 then (barrowref01_sorted.l2 k x0 x3 x4 (x5 ++ [(⟨(rd_T40 x0 x10).f0, (rd_T40 x0 x10).f1, (rd_T40 x0 x10).f2⟩ : S40)]) x6 x7 x8 x9 (wrap64 (x10 + 1))) else (none)) else (none)) else (none)))) else (barrowref01_sorted.l1 k x0 x3 x4 x5 (wrap64 (x6 + (wrap64 (2 * x4)))))
end
def barrowref01_sorted.f (k : Nat) (l0 : List (S40)) : Option ((List (S40))) := barrowref01_sorted.l0 k l0 (l0.length : Int) 1
theorem barrowref01_sorted.mono_l : ∀ k, (∀ y0 y1 y2, LeO (barrowref01_sorted.l0 k y0 y1 y2) (barrowref01_sorted.l0 (k + 1) y0 y1 y2)) ∧ (∀ y0 y1 y2 y3 y4, LeO (barrowref01_sorted.l1 k y0 y1 y2 y3 y4) (barrowref01_sorted.l1 (k + 1) y0 y1 y2 y3 y4)) ∧ (∀ y0 y1 y2 y3 y4 y5, LeO (barrowref01_sorted.j2 k y0 y1 y2 y3 y4 y5) (barrowref01_sorted.j2 (k + 1) y0 y1 y2 y3 y4 y5)) ∧ (∀ y0 y1 y2 y3 y4 y5 y6, LeO (barrowref01_sorted.j3 k y0 y1 y2 y3 y4 y5 y6) (barrowref01_sorted.j3 (k + 1) y0 y1 y2 y3 y4 y5 y6)) ∧ (∀ y0 y1 y2 y3 y4 y5 y6 y7 y8, LeO (barrowref01_sorted.l2 k y0 y1 y2 y3 y4 y5 y6 y7 y8) (barrowref01_sorted.l2 (k + 1) y0 y1 y2 y3 y4 y5 y6 y7 y8)) ∧ (∀ y0 y1 y2 y3 y4 y5 y6 y7 y8 y9, LeO (barrowref01_sorted.j5 k y0 y1 y2 y3 y4 y5 y6 y7 y8 y9) (barrowref01_sorted.j5 (k + 1) y0 y1 y2 y3 y4 y5 y6 y7 y8 y9))
 | 0 => ⟨fun _ _ _ r h => by simp [barrowref01_sorted.l0] at h, fun _ _ _ _ _ r h => by simp [barrowref01_sorted.l1] at h, fun _ _ _ _ _ _ r h => by simp [barrowref01_sorted.j2] at h, fun _ _ _ _ _ _ _ r h => by simp [barrowref01_sorted.j3] at h, fun _ _ _ _ _ _ _ _ _ r h => by simp [barrowref01_sorted.l2] at h, fun _ _ _ _ _ _ _ _ _ _ r h => by simp [barrowref01_sorted.j5] at h⟩
 | k + 1 => by
  obtain ⟨ih0, ih1, ih2, ih3, ih4, ih5⟩ := barrowref01_sorted.mono_l k
  refine ⟨?_, ?_, ?_, ?_, ?_, ?_⟩
  ·intro y0 y1 y2
   unfold barrowref01_sorted.l0
   repeat' first
   | (with_reducible exact ih0 _ _ _)
   | (with_reducible exact ih1 _ _ _ _ _)
   | (with_reducible exact ih2 _ _ _ _ _ _)
   | (with_reducible exact ih3 _ _ _ _ _ _ _)
   | (with_reducible exact ih4 _ _ _ _ _ _ _ _ _)
   | (with_reducible exact ih5 _ _ _ _ _ _ _ _ _ _)
   | (with_reducible exact LeO.refl _)
   | (with_reducible exact LeO.none _)
   | (with_reducible refine LeO.ite ?_ ?_)
   | (with_reducible refine LeO.bind ?_ (fun _ => ?_))
   | exact ih0 _ _ _
   | exact ih1 _ _ _ _ _
   | exact ih2 _ _ _ _ _ _
   | exact ih3 _ _ _ _ _ _ _
   | exact ih4 _ _ _ _ _ _ _ _ _
   | exact ih5 _ _ _ _ _ _ _ _ _ _
   | exact LeO.none _
   | refine LeO.ite ?_ ?_
   | refine LeO.bind ?_ (fun _ => ?_)
  ·intro y0 y1 y2 y3 y4
   unfold barrowref01_sorted.l1
   repeat' first
   | (with_reducible exact ih0 _ _ _)
   | (with_reducible exact ih1 _ _ _ _ _)
   | (with_reducible exact ih2 _ _ _ _ _ _)
   | (with_reducible exact ih3 _ _ _ _ _ _ _)
   | (with_reducible exact ih4 _ _ _ _ _ _ _ _ _)
   | (with_reducible exact ih5 _ _ _ _ _ _ _ _ _ _)
   | (with_reducible exact LeO.refl _)
   | (with_reducible exact LeO.none _)
   | (with_reducible refine LeO.ite ?_ ?_)
   | (with_reducible refine LeO.bind ?_ (fun _ => ?_))
   | exact ih0 _ _ _
   | exact ih1 _ _ _ _ _
   | exact ih2 _ _ _ _ _ _
   | exact ih3 _ _ _ _ _ _ _
   | exact ih4 _ _ _ _ _ _ _ _ _
   | exact ih5 _ _ _ _ _ _ _ _ _ _
   | exact LeO.none _
   | refine LeO.ite ?_ ?_
   | refine LeO.bind ?_ (fun _ => ?_)
  ·intro y0 y1 y2 y3 y4 y5
   unfold barrowref01_sorted.j2
   repeat' first
   | (with_reducible exact ih0 _ _ _)
   | (with_reducible exact ih1 _ _ _ _ _)
   | (with_reducible exact ih2 _ _ _ _ _ _)
   | (with_reducible exact ih3 _ _ _ _ _ _ _)
   | (with_reducible exact ih4 _ _ _ _ _ _ _ _ _)
   | (with_reducible exact ih5 _ _ _ _ _ _ _ _ _ _)
   | (with_reducible exact LeO.refl _)
   | (with_reducible exact LeO.none _)
   | (with_reducible refine LeO.ite ?_ ?_)
   | (with_reducible refine LeO.bind ?_ (fun _ => ?_))
   | exact ih0 _ _ _
   | exact ih1 _ _ _ _ _
   | exact ih2 _ _ _ _ _ _
   | exact ih3 _ _ _ _ _ _ _
   | exact ih4 _ _ _ _ _ _ _ _ _
   | exact ih5 _ _ _ _ _ _ _ _ _ _
   | exact LeO.none _
   | refine LeO.ite ?_ ?_
   | refine LeO.bind ?_ (fun _ => ?_)
  ·intro y0 y1 y2 y3 y4 y5 y6
   unfold barrowref01_sorted.j3
   repeat' first
   | (with_reducible exact ih0 _ _ _)
   | (with_reducible exact ih1 _ _ _ _ _)
   | (with_reducible exact ih2 _ _ _ _ _ _)
   | (with_reducible exact ih3 _ _ _ _ _ _ _)
   | (with_reducible exact ih4 _ _ _ _ _ _ _ _ _)
   | (with_reducible exact ih5 _ _ _ _ _ _ _ _ _ _)
   | (with_reducible exact LeO.refl _)
   | (with_reducible exact LeO.none _)
   | (with_reducible refine LeO.ite ?_ ?_)
   | (with_reducible refine LeO.bind ?_ (fun _ => ?_))
   | exact ih0 _ _ _
   | exact ih1 _ _ _ _ _
   | exact ih2 _ _ _ _ _ _
   | exact ih3 _ _ _ _ _ _ _
   | exact ih4 _ _ _ _ _ _ _ _ _
   | exact ih5 _ _ _ _ _ _ _ _ _ _
   | exact LeO.none _
   | refine LeO.ite ?_ ?_
   | refine LeO.bind ?_ (fun _ => ?_)
  ·intro y0 y1 y2 y3 y4 y5 y6 y7 y8
   unfold barrowref01_sorted.l2
   repeat' first
   | (with_reducible exact ih0 _ _ _)
   | (with_reducible exact ih1 _ _ _ _ _)
   | (with_reducible exact ih2 _ _ _ _ _ _)
   | (with_reducible exact ih3 _ _ _ _ _ _ _)
   | (with_reducible exact ih4 _ _ _ _ _ _ _ _ _)
   | (with_reducible exact ih5 _ _ _ _ _ _ _ _ _ _)
   | (with_reducible exact LeO.refl _)
   | (with_reducible exact LeO.none _)
   | (with_reducible refine LeO.ite ?_ ?_)
   | (with_reducible refine LeO.bind ?_ (fun _ => ?_))
   | exact ih0 _ _ _
   | exact ih1 _ _ _ _ _
   | exact ih2 _ _ _ _ _ _
   | exact ih3 _ _ _ _ _ _ _
   | exact ih4 _ _ _ _ _ _ _ _ _
   | exact ih5 _ _ _ _ _ _ _ _ _ _
   | exact LeO.none _
   | refine LeO.ite ?_ ?_
   | refine LeO.bind ?_ (fun _ => ?_)
  ·intro y0 y1 y2 y3 y4 y5 y6 y7 y8 y9
   unfold barrowref01_sorted.j5
   repeat' first
   | (with_reducible exact ih0 _ _ _)
   | (with_reducible exact ih1 _ _ _ _ _)
   | (with_reducible exact ih2 _ _ _ _ _ _)
   | (with_reducible exact ih3 _ _ _ _ _ _ _)
   | (with_reducible exact ih4 _ _ _ _ _ _ _ _ _)
   | (with_reducible exact ih5 _ _ _ _ _ _ _ _ _ _)
   | (with_reducible exact LeO.refl _)
   | (with_reducible exact LeO.none _)
   | (with_reducible refine LeO.ite ?_ ?_)
   | (with_reducible refine LeO.bind ?_ (fun _ => ?_))
   | exact ih0 _ _ _
   | exact ih1 _ _ _ _ _
   | exact ih2 _ _ _ _ _ _
   | exact ih3 _ _ _ _ _ _ _
   | exact ih4 _ _ _ _ _ _ _ _ _
   | exact ih5 _ _ _ _ _ _ _ _ _ _
   | exact LeO.none _
   | refine LeO.ite ?_ ?_
   | refine LeO.bind ?_ (fun _ => ?_)
theorem barrowref01_sorted.mono : ∀ a0 k, LeO (barrowref01_sorted.f k a0) (barrowref01_sorted.f (k + 1) a0) := by
 intro a0 k
 obtain ⟨ih0, ih1, ih2, ih3, ih4, ih5⟩ := barrowref01_sorted.mono_l k
 unfold barrowref01_sorted.f
 repeat' first
   | (with_reducible exact ih0 _ _ _)
   | (with_reducible exact ih1 _ _ _ _ _)
   | (with_reducible exact ih2 _ _ _ _ _ _)
   | (with_reducible exact ih3 _ _ _ _ _ _ _)
   | (with_reducible exact ih4 _ _ _ _ _ _ _ _ _)
   | (with_reducible exact ih5 _ _ _ _ _ _ _ _ _ _)
   | (with_reducible exact LeO.refl _)
   | (with_reducible exact LeO.none _)
   | (with_reducible refine LeO.ite ?_ ?_)
   | (with_reducible refine LeO.bind ?_ (fun _ => ?_))
   | exact ih0 _ _ _
   | exact ih1 _ _ _ _ _
   | exact ih2 _ _ _ _ _ _
   | exact ih3 _ _ _ _ _ _ _
   | exact ih4 _ _ _ _ _ _ _ _ _
   | exact ih5 _ _ _ _ _ _ _ _ _ _
   | exact LeO.none _
   | refine LeO.ite ?_ ?_
   | refine LeO.bind ?_ (fun _ => ?_)
set_option maxHeartbeats 8000000 in
set_option maxRecDepth 100000 in
theorem barrowref01_sorted.calls (k : Nat) (P0_ : Nat → Prop) (A0 : Option Addr) (c0 : Nat) (l0 : List (S40)) (r : List (S40)) (w : World) (hs0 : Kd.V k40 40 w w.heap.size (fun k_ => P0_ k_) (.slice A0 l0.length c0) l0) (h : barrowref01_sorted.f k l0 = some r) :
  Calls Try.prog 12 #[.slice A0 l0.length c0] w fun e w' => ∃ v0_ : Value, e = .returned (v0_) ∧ Kd.V k40 40 w' w.heap.size (fun k_ => (P0_ k_ ∨ w.heap.size ≤ k_)) v0_ r ∧ Below w.heap.size w w' := by
 have hu40 := Try.underlying40
 have HO0 := Aside0.mk (show Kd.V k40 40 w w.heap.size (fun k_ => (P0_ k_ ∨ w.heap.size ≤ k_)) (.slice A0 l0.length c0) l0 from Kd.V_mono hs0 (fun k_ hk => .inl hk))
 have HB := Aside0.mk (Below.refl w.heap.size w)
 have H : (barrowref01_sorted.l0 k l0 (l0.length : Int) 1) = some r := h
 clear h
 have H' := Aside0.mk H
 clear H
 go_enter Try.func12, Try.ntmps12
 go_wp2
 repeat (go_quiet (fail); try go_wp2)
 go_loopg [0, 4] k (fun kq v0 v4 w' => ∃ (x0_1 : List (S40)) (x4_1 : Int), v4 = .int .i64 x4_1 ∧ Aside0 (barrowref01_sorted.l0 kq x0_1 (l0.length : Int) x4_1 = some r) ∧ Aside0 (kq ≤ k) ∧ Aside0 (Kd.V k40 40 w' w.heap.size (fun k_ => (P0_ k_ ∨ w.heap.size ≤ k_)) v0 x0_1) ∧ Aside0 (Below w.heap.size w w'))
 case atStart => exact ⟨(l0), (1), (by first | rfl | (simp; done) | (simp [*]; done)), H', ⟨Nat.le_refl _⟩, ⟨by (with_reducible repeat (first | apply Kd.V_alloc | apply Kd.V_drewN | apply Kd.V_drew)); exact HO0.out⟩, ⟨by repeat (first | (with_reducible first | exact HB.out | apply below_alloc | apply pw_below_drewN | apply below_drew1) | exact HB.out)⟩⟩
 case round =>
  clear H'
  try clear c1
  obtain ⟨x0_1, x4_1, rfl, HA, HK1, HO_0, HB⟩ := hrel
  cases gk with
  | zero => exact absurd HA.out (by simp [barrowref01_sorted.l0])
  | succ k1 =>
   have H := HA.out
   clear HA
   simp only [barrowref01_sorted.l0] at H
   by_cases c2 : x4_1 < (l0.length : Int)
   ·rw [if_pos c2] at H
    have c2b0 : decide (x4_1 < (l0.length : Int)) = true := decide_eq_true c2
    clear c2
    by_cases c3 : 0 ≤ (l0.length : Int)
    ·rw [if_pos c3] at H
     have c3b0 := eq_true c3
     have c3b1 : decide (0 ≤ (l0.length : Int)) = true := decide_eq_true c3
     clear c3
     by_cases c4 : ((l0.length : Int) : Int).toNat ≤ 11728124029610
     ·rw [if_pos c4] at H
      have c4b0 := eq_true c4
      have c4b1 : decide (((l0.length : Int) : Int).toNat ≤ 11728124029610) = true := decide_eq_true c4
      clear c4
      obtain ⟨y118, hy118⟩ : ∃ y_ : List (S40), y_ = (([] : List (S40))) := ⟨_, rfl⟩
      replace H : (barrowref01_sorted.l1 k1 x0_1 (l0.length : Int) x4_1 y118 0) = some r := by first | (rw [hy118]; with_reducible exact H) | (have H2_ := (Option.bind_some _ _).symm.trans H; rw [hy118]; with_reducible exact H2_) | (have H2_ := (Option.bind_some _ _).symm.trans H; with_reducible exact H2_) | with_reducible exact H | (rw [hy118]; exact H) | exact H
      have Ny118 := Aside0.mk hy118
      clear hy118
      have H' := Aside0.mk H
      clear H
      go_wp2_with (first | ((with_reducible refine gate_dst (N := 19) rfl ?_); refine R_make0 k40 _ 40 rfl (N := 19) rfl 36 _ _ rfl (l0.length : Int) rfl rfl Try.underlying36 (.agg #[(.int .i64 0), (.int .i64 0), (.int .i64 0)]) 24 info40 rfl (by decide) (by omega) z40 (ok := fun _ => True) (okp := fun _ => True) (k40_mkM _ _ _ z40 ) (fun _ hk => hk) trivial (of_decide_eq_true (by first | (with_reducible assumption) | assumption)) (Nat.le_trans (Nat.mul_le_mul_right _ (of_decide_eq_true (by first | (with_reducible assumption) | assumption) : (l0.length : Int).toNat ≤ 11728124029610)) (by omega)) (Below.refl _ _) (Nat.le_refl _) ?_; intro v119 w5 ho6 hb hg_ hnew_; clear hg_ hnew_; (first | rw [← Ny118.out] at ho6 | (simp only [Int.reduceToNat] at ho6; rw [← Ny118.out] at ho6)); have n0_ := Aside0.mk (Kd.V_elder' (by (with_reducible repeat (first | apply Kd.V_alloc | apply Kd.V_drewN | apply Kd.V_drew)); exact HO_0.out) (Kd.R_base ho6) hb); have n1_ := Aside0.mk (Kd.R_lower (Kd.R_newM (M := fun k_ => (w.heap.size ≤ k_)) ho6 (below_size (by repeat (first | (with_reducible first | exact HB.out | apply below_alloc | apply pw_below_drewN | apply below_drew1) | exact HB.out))) (fun k_ h_ => h_)) (below_size (by repeat (first | (with_reducible first | exact HB.out | apply below_alloc | apply pw_below_drewN | apply below_drew1) | exact HB.out)))); have n2_ := Aside0.mk (below_step (by repeat (first | (with_reducible first | exact HB.out | apply below_alloc | apply pw_below_drewN | apply below_drew1) | exact HB.out)) hb); clear HO_0; clear HB; have HO_0 := n0_; have HO120 := n1_; have HB := n2_; clear n0_ n1_ n2_; clear hb ho6))
      repeat (go_quiet (first | ((with_reducible refine gate_dst (N := 19) rfl ?_); refine R_make0 k40 _ 40 rfl (N := 19) rfl 36 _ _ rfl (l0.length : Int) rfl rfl Try.underlying36 (.agg #[(.int .i64 0), (.int .i64 0), (.int .i64 0)]) 24 info40 rfl (by decide) (by omega) z40 (ok := fun _ => True) (okp := fun _ => True) (k40_mkM _ _ _ z40 ) (fun _ hk => hk) trivial (of_decide_eq_true (by first | (with_reducible assumption) | assumption)) (Nat.le_trans (Nat.mul_le_mul_right _ (of_decide_eq_true (by first | (with_reducible assumption) | assumption) : (l0.length : Int).toNat ≤ 11728124029610)) (by omega)) (Below.refl _ _) (Nat.le_refl _) ?_; intro v119 w5 ho6 hb hg_ hnew_; clear hg_ hnew_; (first | rw [← Ny118.out] at ho6 | (simp only [Int.reduceToNat] at ho6; rw [← Ny118.out] at ho6)); have n0_ := Aside0.mk (Kd.V_elder' (by (with_reducible repeat (first | apply Kd.V_alloc | apply Kd.V_drewN | apply Kd.V_drew)); exact HO_0.out) (Kd.R_base ho6) hb); have n1_ := Aside0.mk (Kd.R_lower (Kd.R_newM (M := fun k_ => (w.heap.size ≤ k_)) ho6 (below_size (by repeat (first | (with_reducible first | exact HB.out | apply below_alloc | apply pw_below_drewN | apply below_drew1) | exact HB.out))) (fun k_ h_ => h_)) (below_size (by repeat (first | (with_reducible first | exact HB.out | apply below_alloc | apply pw_below_drewN | apply below_drew1) | exact HB.out)))); have n2_ := Aside0.mk (below_step (by repeat (first | (with_reducible first | exact HB.out | apply below_alloc | apply pw_below_drewN | apply below_drew1) | exact HB.out)) hb); clear HO_0; clear HB; have HO_0 := n0_; have HO120 := n1_; have HB := n2_; clear n0_ n1_ n2_; clear hb ho6)); try go_wp2_with (first | ((with_reducible refine gate_dst (N := 19) rfl ?_); refine R_make0 k40 _ 40 rfl (N := 19) rfl 36 _ _ rfl (l0.length : Int) rfl rfl Try.underlying36 (.agg #[(.int .i64 0), (.int .i64 0), (.int .i64 0)]) 24 info40 rfl (by decide) (by omega) z40 (ok := fun _ => True) (okp := fun _ => True) (k40_mkM _ _ _ z40 ) (fun _ hk => hk) trivial (of_decide_eq_true (by first | (with_reducible assumption) | assumption)) (Nat.le_trans (Nat.mul_le_mul_right _ (of_decide_eq_true (by first | (with_reducible assumption) | assumption) : (l0.length : Int).toNat ≤ 11728124029610)) (by omega)) (Below.refl _ _) (Nat.le_refl _) ?_; intro v119 w5 ho6 hb hg_ hnew_; clear hg_ hnew_; (first | rw [← Ny118.out] at ho6 | (simp only [Int.reduceToNat] at ho6; rw [← Ny118.out] at ho6)); have n0_ := Aside0.mk (Kd.V_elder' (by (with_reducible repeat (first | apply Kd.V_alloc | apply Kd.V_drewN | apply Kd.V_drew)); exact HO_0.out) (Kd.R_base ho6) hb); have n1_ := Aside0.mk (Kd.R_lower (Kd.R_newM (M := fun k_ => (w.heap.size ≤ k_)) ho6 (below_size (by repeat (first | (with_reducible first | exact HB.out | apply below_alloc | apply pw_below_drewN | apply below_drew1) | exact HB.out))) (fun k_ h_ => h_)) (below_size (by repeat (first | (with_reducible first | exact HB.out | apply below_alloc | apply pw_below_drewN | apply below_drew1) | exact HB.out)))); have n2_ := Aside0.mk (below_step (by repeat (first | (with_reducible first | exact HB.out | apply below_alloc | apply pw_below_drewN | apply below_drew1) | exact HB.out)) hb); clear HO_0; clear HB; have HO_0 := n0_; have HO120 := n1_; have HB := n2_; clear n0_ n1_ n2_; clear hb ho6)))
      go_loopg [5, 6] k1 (fun kq v5 v6 w' => ∃ (x5_2 : List (S40)) (x6_2 : Int), v6 = .int .i64 x6_2 ∧ Aside0 (barrowref01_sorted.l1 kq x0_1 (l0.length : Int) x4_1 x5_2 x6_2 = some r) ∧ Aside0 (kq ≤ k1) ∧ Aside0 (Kd.V k40 40 w' w.heap.size (fun k_ => (P0_ k_ ∨ w.heap.size ≤ k_) ∧ some k_ ≠ (v5 : Value).ownBlock) u0 x0_1) ∧ Aside0 (Kd.R k40 40 w' w.heap.size (fun k_ => (w.heap.size ≤ k_)) v5 x5_2) ∧ Aside0 (Below w.heap.size w w'))
      case atStart => exact ⟨(y118), (0), (by first | rfl | (simp; done) | (simp [*]; done)), H', ⟨Nat.le_refl _⟩, ⟨by (with_reducible repeat (first | apply Kd.V_alloc | apply Kd.V_drewN | apply Kd.V_drew)); exact HO_0.out⟩, ⟨by (with_reducible repeat (first | apply Kd.R_alloc | apply Kd.R_drewN | apply Kd.R_drew)); exact Kd.R_mono HO120.out (fun _ hk => hk.1)⟩, ⟨by repeat (first | (with_reducible first | exact HB.out | apply below_alloc | apply pw_below_drewN | apply below_drew1) | exact HB.out)⟩⟩
      case round =>
       clear H'
       try clear c1
       try clear c2
       try clear c2b0
       try clear p2
       try clear c3
       try clear c3b0
       try clear c3b1
       try clear c4
       try clear c4b0
       try clear c4b1
       obtain ⟨x5_2, x6_2, rfl, HA, HK2, HO_0, HO_5, HB⟩ := hrel
       cases gk with
       | zero => exact absurd HA.out (by simp [barrowref01_sorted.l1])
       | succ k2 =>
        have H := HA.out
        clear HA
        simp only [barrowref01_sorted.l1] at H
        by_cases c7 : x6_2 < (l0.length : Int)
        ·rw [if_pos c7] at H
         have c7b0 : decide (x6_2 < (l0.length : Int)) = true := decide_eq_true c7
         clear c7
         have HC8 := Aside0.mk H
         clear H
         go_upto_if 32 with (fail)
         repeat (go_quiet (fail); go_upto_if 32 with (fail))
         go_cut [7] (fun v7 wc => ∃ (kq : Nat) (x7_7 : Int), v7 = .int .i64 x7_7 ∧ Aside0 (barrowref01_sorted.j2 kq x0_1 (l0.length : Int) x4_1 x5_2 x6_2 x7_7 = some r) ∧ Aside0 (kq ≤ k2) ∧ Aside0 (Kd.V k40 40 wc w.heap.size (fun k_ => (P0_ k_ ∨ w.heap.size ≤ k_) ∧ some k_ ≠ (u5 : Value).ownBlock) u0 x0_1) ∧ Aside0 (Kd.R k40 40 wc w.heap.size (fun k_ => (w.heap.size ≤ k_)) u5 x5_2) ∧ Aside0 (Below w.heap.size w wc))
         case first =>
          have H := HC8.out
          clear HC8
          by_cases c9 : (wrap64 (x6_2 + x4_1)) > (l0.length : Int)
          ·rw [if_pos c9] at H
           have c9b0 : decide ((l0.length : Int) < (wrap64 (x6_2 + x4_1))) = true := decide_eq_true c9
           clear c9
           (first | rw [c9b0] | (simp only [i64_w, i32_w]; rw [c9b0]) | skip)
           have H' := Aside0.mk H
           clear H
           go_wp2
           repeat (go_quiet (fail); try go_wp2)
           go_meet
           case rel => exact ⟨_, ((l0.length : Int)), (by first | rfl | (simp; done) | (simp [*]; done)), H', ⟨by have := HK1.out; have := HK2.out; first | omega | exact Nat.le_refl _⟩, ⟨by (with_reducible repeat (first | apply Kd.V_alloc | apply Kd.V_drewN | apply Kd.V_drew)); exact HO_0.out⟩, ⟨by (with_reducible repeat (first | apply Kd.R_alloc | apply Kd.R_drewN | apply Kd.R_drew)); exact HO_5.out⟩, ⟨by repeat (first | (with_reducible first | exact HB.out | apply below_alloc | apply pw_below_drewN | apply below_drew1) | exact HB.out)⟩⟩
          ·rw [if_neg c9] at H
           have c9b0 : decide ((l0.length : Int) < (wrap64 (x6_2 + x4_1))) = false := decide_eq_false c9
           clear c9
           (first | rw [c9b0] | (simp only [i64_w, i32_w]; rw [c9b0]) | skip)
           have H' := Aside0.mk H
           clear H
           go_wp2
           repeat (go_quiet (fail); try go_wp2)
           go_meet
           case rel => exact ⟨_, (wrap64 (x6_2 + x4_1)), (by first | rfl | (simp; done) | (simp [*]; done)), H', ⟨by have := HK1.out; have := HK2.out; first | omega | exact Nat.le_refl _⟩, ⟨by (with_reducible repeat (first | apply Kd.V_alloc | apply Kd.V_drewN | apply Kd.V_drew)); exact HO_0.out⟩, ⟨by (with_reducible repeat (first | apply Kd.R_alloc | apply Kd.R_drewN | apply Kd.R_drew)); exact HO_5.out⟩, ⟨by repeat (first | (with_reducible first | exact HB.out | apply below_alloc | apply pw_below_drewN | apply below_drew1) | exact HB.out)⟩⟩
         case rest =>
          clear HC8
          try clear c1
          try clear c2
          try clear c2b0
          try clear p2
          try clear c3
          try clear c3b0
          try clear c3b1
          try clear c4
          try clear c4b0
          try clear c4b1
          try clear p6
          try clear c7
          try clear c7b0
          try clear c9
          try clear c9b0
          try clear p2
          obtain ⟨kq, x7_7, rfl, HA, HJ7, HO_0, HO_5, HB⟩ := hcut
          cases kq with
          | zero => exact absurd HA.out (by simp [barrowref01_sorted.j2])
          | succ kj7 =>
           have H := HA.out
           clear HA
           simp only [barrowref01_sorted.j2] at H
           have HC10 := Aside0.mk H
           clear H
           go_upto_if 39 with (fail)
           repeat (go_quiet (fail); go_upto_if 39 with (fail))
           go_cut [8] (fun v8 wc => ∃ (kq : Nat) (x8_9 : Int), v8 = .int .i64 x8_9 ∧ Aside0 (barrowref01_sorted.j3 kq x0_1 (l0.length : Int) x4_1 x5_2 x6_2 x7_7 x8_9 = some r) ∧ Aside0 (kq ≤ kj7) ∧ Aside0 (Kd.V k40 40 wc w.heap.size (fun k_ => (P0_ k_ ∨ w.heap.size ≤ k_) ∧ some k_ ≠ (u5 : Value).ownBlock) u0 x0_1) ∧ Aside0 (Kd.R k40 40 wc w.heap.size (fun k_ => (w.heap.size ≤ k_)) u5 x5_2) ∧ Aside0 (Below w.heap.size w wc))
           case first =>
            have H := HC10.out
            clear HC10
            by_cases c11 : (wrap64 (x7_7 + x4_1)) > (l0.length : Int)
            ·rw [if_pos c11] at H
             have c11b0 : decide ((l0.length : Int) < (wrap64 (x7_7 + x4_1))) = true := decide_eq_true c11
             clear c11
             (first | rw [c11b0] | (simp only [i64_w, i32_w]; rw [c11b0]) | skip)
             have H' := Aside0.mk H
             clear H
             go_wp2
             repeat (go_quiet (fail); try go_wp2)
             go_meet
             case rel => exact ⟨_, ((l0.length : Int)), (by first | rfl | (simp; done) | (simp [*]; done)), H', ⟨by have := HK1.out; have := HK2.out; have := HJ7.out; first | omega | exact Nat.le_refl _⟩, ⟨by (with_reducible repeat (first | apply Kd.V_alloc | apply Kd.V_drewN | apply Kd.V_drew)); exact HO_0.out⟩, ⟨by (with_reducible repeat (first | apply Kd.R_alloc | apply Kd.R_drewN | apply Kd.R_drew)); exact HO_5.out⟩, ⟨by repeat (first | (with_reducible first | exact HB.out | apply below_alloc | apply pw_below_drewN | apply below_drew1) | exact HB.out)⟩⟩
            ·rw [if_neg c11] at H
             have c11b0 : decide ((l0.length : Int) < (wrap64 (x7_7 + x4_1))) = false := decide_eq_false c11
             clear c11
             (first | rw [c11b0] | (simp only [i64_w, i32_w]; rw [c11b0]) | skip)
             have H' := Aside0.mk H
             clear H
             go_wp2
             repeat (go_quiet (fail); try go_wp2)
             go_meet
             case rel => exact ⟨_, (wrap64 (x7_7 + x4_1)), (by first | rfl | (simp; done) | (simp [*]; done)), H', ⟨by have := HK1.out; have := HK2.out; have := HJ7.out; first | omega | exact Nat.le_refl _⟩, ⟨by (with_reducible repeat (first | apply Kd.V_alloc | apply Kd.V_drewN | apply Kd.V_drew)); exact HO_0.out⟩, ⟨by (with_reducible repeat (first | apply Kd.R_alloc | apply Kd.R_drewN | apply Kd.R_drew)); exact HO_5.out⟩, ⟨by repeat (first | (with_reducible first | exact HB.out | apply below_alloc | apply pw_below_drewN | apply below_drew1) | exact HB.out)⟩⟩
           case rest =>
            clear HC10
            try clear c1
            try clear c2
            try clear c2b0
            try clear p2
            try clear c3
            try clear c3b0
            try clear c3b1
            try clear c4
            try clear c4b0
            try clear c4b1
            try clear p6
            try clear c7
            try clear c7b0
            try clear c9
            try clear c9b0
            try clear c11
            try clear c11b0
            try clear p2
            try clear p6
            obtain ⟨kq, x8_9, rfl, HA, HJ9, HO_0, HO_5, HB⟩ := hcut
            cases kq with
            | zero => exact absurd HA.out (by simp [barrowref01_sorted.j3])
            | succ kj9 =>
             have H := HA.out
             clear HA
             simp only [barrowref01_sorted.j3] at H
             have H' := Aside0.mk H
             clear H
             go_wp2
             repeat (go_quiet (fail); try go_wp2)
             go_loopg [5, 9, 10] kj9 (fun kq v5 v9 v10 w' => ∃ (x5_5 : List (S40)) (x9_5 : Int) (x10_5 : Int), v9 = .int .i64 x9_5 ∧ v10 = .int .i64 x10_5 ∧ Aside0 (barrowref01_sorted.l2 kq x0_1 (l0.length : Int) x4_1 x5_5 x6_2 x7_7 x8_9 x9_5 x10_5 = some r) ∧ Aside0 (kq ≤ kj9) ∧ Aside0 (Kd.V k40 40 w' w.heap.size (fun k_ => (P0_ k_ ∨ w.heap.size ≤ k_) ∧ some k_ ≠ (v5 : Value).ownBlock) u0 x0_1) ∧ Aside0 (Kd.R k40 40 w' w.heap.size (fun k_ => (w.heap.size ≤ k_)) v5 x5_5) ∧ Aside0 (Below w.heap.size w w'))
             case atStart => exact ⟨(x5_2), (x6_2), (x7_7), (by first | rfl | (simp; done) | (simp [*]; done)), (by first | rfl | (simp; done) | (simp [*]; done)), H', ⟨Nat.le_refl _⟩, ⟨by (with_reducible repeat (first | apply Kd.V_alloc | apply Kd.V_drewN | apply Kd.V_drew)); exact HO_0.out⟩, ⟨by (with_reducible repeat (first | apply Kd.R_alloc | apply Kd.R_drewN | apply Kd.R_drew)); exact HO_5.out⟩, ⟨by repeat (first | (with_reducible first | exact HB.out | apply below_alloc | apply pw_below_drewN | apply below_drew1) | exact HB.out)⟩⟩
             case round =>
              clear H'
              try clear c1
              try clear c2
              try clear c2b0
              try clear p2
              try clear c3
              try clear c3b0
              try clear c3b1
              try clear c4
              try clear c4b0
              try clear c4b1
              try clear p6
              try clear c7
              try clear c7b0
              try clear c9
              try clear c9b0
              try clear c11
              try clear c11b0
              try clear p2
              try clear p6
              obtain ⟨x5_5, x9_5, x10_5, rfl, rfl, HA, HK5, HO_0, HO_5, HB⟩ := hrel
              cases gk with
              | zero => exact absurd HA.out (by simp [barrowref01_sorted.l2])
              | succ k5 =>
               have H := HA.out
               clear HA
               simp only [barrowref01_sorted.l2] at H
               have HC12 := Aside0.mk H
               clear H
               go_upto_region 17 with (fail)
               repeat (go_quiet (fail); go_upto_region 17 with (fail))
               go_cut [50] (fun v50 wc => ∃ (kq : Nat) (x50_11 : Bool), v50 = .bool x50_11 ∧ Aside0 (barrowref01_sorted.j5 kq x0_1 (l0.length : Int) x4_1 x5_5 x6_2 x7_7 x8_9 x9_5 x10_5 x50_11 = some r) ∧ Aside0 (kq ≤ k5) ∧ Aside0 (Kd.V k40 40 wc w.heap.size (fun k_ => (P0_ k_ ∨ w.heap.size ≤ k_) ∧ some k_ ≠ (u5 : Value).ownBlock) u0 x0_1) ∧ Aside0 (Kd.R k40 40 wc w.heap.size (fun k_ => (w.heap.size ≤ k_)) u5 x5_5) ∧ Aside0 (Below w.heap.size w wc))
               case first =>
                have H := HC12.out
                clear HC12
                by_cases c13 : x9_5 < x7_7
                ·rw [if_pos c13] at H
                 have c13b0 : decide (x9_5 < x7_7) = true := decide_eq_true c13
                 clear c13
                 (first | rw [c13b0] | (simp only [i64_w, i32_w]; rw [c13b0]) | skip)
                 have H' := Aside0.mk H
                 clear H
                 go_wp2
                 repeat (go_quiet (fail); try go_wp2)
                 go_meet
                 case rel => exact ⟨_, (true), (by first | rfl | (simp; done) | (simp [*]; done)), H', ⟨by have := HK1.out; have := HK2.out; have := HJ7.out; have := HJ9.out; have := HK5.out; first | omega | exact Nat.le_refl _⟩, ⟨by (with_reducible repeat (first | apply Kd.V_alloc | apply Kd.V_drewN | apply Kd.V_drew)); exact HO_0.out⟩, ⟨by (with_reducible repeat (first | apply Kd.R_alloc | apply Kd.R_drewN | apply Kd.R_drew)); exact HO_5.out⟩, ⟨by repeat (first | (with_reducible first | exact HB.out | apply below_alloc | apply pw_below_drewN | apply below_drew1) | exact HB.out)⟩⟩
                ·rw [if_neg c13] at H
                 have c13b0 : decide (x9_5 < x7_7) = false := decide_eq_false c13
                 clear c13
                 (first | rw [c13b0] | (simp only [i64_w, i32_w]; rw [c13b0]) | skip)
                 have H' := Aside0.mk H
                 clear H
                 go_wp2
                 repeat (go_quiet (fail); try go_wp2)
                 go_meet
                 case rel => exact ⟨_, (decide (x10_5 < x8_9)), (by first | rfl | (simp; done) | (simp [*]; done)), H', ⟨by have := HK1.out; have := HK2.out; have := HJ7.out; have := HJ9.out; have := HK5.out; first | omega | exact Nat.le_refl _⟩, ⟨by (with_reducible repeat (first | apply Kd.V_alloc | apply Kd.V_drewN | apply Kd.V_drew)); exact HO_0.out⟩, ⟨by (with_reducible repeat (first | apply Kd.R_alloc | apply Kd.R_drewN | apply Kd.R_drew)); exact HO_5.out⟩, ⟨by repeat (first | (with_reducible first | exact HB.out | apply below_alloc | apply pw_below_drewN | apply below_drew1) | exact HB.out)⟩⟩
               case rest =>
                clear HC12
                try clear c1
                try clear c2
                try clear c2b0
                try clear p2
                try clear c3
                try clear c3b0
                try clear c3b1
                try clear c4
                try clear c4b0
                try clear c4b1
                try clear p6
                try clear c7
                try clear c7b0
                try clear c9
                try clear c9b0
                try clear c11
                try clear c11b0
                try clear c12
                try clear c13
                try clear c13b0
                try clear p2
                try clear p6
                obtain ⟨kq, x50_11, rfl, HA, HJ11, HO_0, HO_5, HB⟩ := hcut
                cases kq with
                | zero => exact absurd HA.out (by simp [barrowref01_sorted.j5])
                | succ kj11 =>
                 have H := HA.out
                 clear HA
                 simp only [barrowref01_sorted.j5] at H
                 by_cases c14 : x50_11 = true
                 ·subst c14
                  have H1 : (if x10_5 ≥ x8_9 then (if 0 ≤ x9_5 then (if x9_5 < (x0_1.length : Int) then (if x5_5.length < 5864062014805 then (barrowref01_sorted.l2 kj11 x0_1 (l0.length : Int) x4_1 (x5_5 ++ [(⟨(rd_T40 x0_1 x9_5).f0, (rd_T40 x0_1 x9_5).f1, (rd_T40 x0_1 x9_5).f2⟩ : S40)]) x6_2 x7_7 x8_9 (wrap64 (x9_5 + 1)) x10_5) else (none)) else (none)) else (none)) else (if x9_5 < x7_7 then (if 0 ≤ x9_5 then (if x9_5 < (x0_1.length : Int) then (if 0 ≤ x10_5 then (if x10_5 < (x0_1.length : Int) then (if ((rd_T40 x0_1 x9_5).f0) ≤ ((rd_T40 x0_1 x10_5).f0) then (if x5_5.length < 5864062014805 then (barrowref01_sorted.l2 kj11 x0_1 (l0.length : Int) x4_1 (x5_5 ++ [(⟨(rd_T40 x0_1 x9_5).f0, (rd_T40 x0_1 x9_5).f1, (rd_T40 x0_1 x9_5).f2⟩ : S40)]) x6_2 x7_7 x8_9 (wrap64 (x9_5 + 1)) x10_5) else (none)) else (if x5_5.length < 5864062014805 then (barrowref01_sorted.l2 kj11 x0_1 (l0.length : Int) x4_1 (x5_5 ++ [(⟨(rd_T40 x0_1 x10_5).f0, (rd_T40 x0_1 x10_5).f1, (rd_T40 x0_1 x10_5).f2⟩ : S40)]) x6_2 x7_7 x8_9 x9_5 (wrap64 (x10_5 + 1))) else (none))) else (none)) else (none)) else (none)) else (none)) else (if 0 ≤ x10_5 then (if x10_5 < (x0_1.length : Int) then (if x5_5.length < 5864062014805 then (barrowref01_sorted.l2 kj11 x0_1 (l0.length : Int) x4_1 (x5_5 ++ [(⟨(rd_T40 x0_1 x10_5).f0, (rd_T40 x0_1 x10_5).f1, (rd_T40 x0_1 x10_5).f2⟩ : S40)]) x6_2 x7_7 x8_9 x9_5 (wrap64 (x10_5 + 1))) else (none)) else (none)) else (none)))) = some r := by rw [if_pos rfl] at H; exact H
                  clear H
                  have H := H1
                  clear H1
                  by_cases c15 : x10_5 ≥ x8_9
                  ·rw [if_pos c15] at H
                   have c15b0 : decide (x8_9 ≤ x10_5) = true := decide_eq_true c15
                   clear c15
                   by_cases c16 : 0 ≤ x9_5
                   ·rw [if_pos c16] at H
                    have c16b0 : decide (0 ≤ x9_5) = true := decide_eq_true c16
                    clear c16
                    by_cases c17 : x9_5 < (x0_1.length : Int)
                    ·rw [if_pos c17] at H
                     have c17b0 : decide (x9_5 < (x0_1.length : Int)) = true := decide_eq_true c17
                     clear c17
                     by_cases c18 : x5_5.length < 5864062014805
                     ·rw [if_pos c18] at H
                      have LMc18 := Aside0.mk c18
                      clear c18
                      obtain ⟨y122, hy122⟩ : ∃ y_ : List (S40), y_ = (x5_5 ++ [(⟨(rd_T40 x0_1 x9_5).f0, (rd_T40 x0_1 x9_5).f1, (rd_T40 x0_1 x9_5).f2⟩ : S40)]) := ⟨_, rfl⟩
                      replace H : (barrowref01_sorted.l2 kj11 x0_1 (l0.length : Int) x4_1 y122 x6_2 x7_7 x8_9 (wrap64 (x9_5 + 1)) x10_5) = some r := by first | (rw [hy122]; with_reducible exact H) | (have H2_ := (Option.bind_some _ _).symm.trans H; rw [hy122]; with_reducible exact H2_) | (have H2_ := (Option.bind_some _ _).symm.trans H; with_reducible exact H2_) | with_reducible exact H | (rw [hy122]; exact H) | exact H
                      have Ny122 := Aside0.mk hy122
                      clear hy122
                      have H' := Aside0.mk H
                      clear H
                      obtain ⟨Ao19, co19, eo19⟩ := Kd.V_slice HO_0.out
                      subst eo19
                      have p121 : 0 ≤ (x9_5 : Int) := of_decide_eq_true (by first | (with_reducible assumption) | assumption)
                      have q121 : x9_5 < (x0_1.length : Int) := of_decide_eq_true (by first | (with_reducible assumption) | assumption)
                      obtain ⟨ad121, e121, hx121_0, hx121_1, hx121_2⟩ := at_T40 (Kd.V_reads' HO_0.out).2.2 x9_5 p121 q121
                      cases e121
                      replace p121 := eq_true p121
                      replace q121 := eq_true q121
                      go_wp2_with (first | ((with_reducible refine gate_builtin (b := .append) (xs := #[.tmp 72, .tmp 77]) rfl ?_); at_builtin; refine Kd.R_append k40 (w0 := w) w.heap.size rfl (.tmp 72) (.tmp 77) 36 40 (.agg #[(.int .i64 0), (.int .i64 0), (.int .i64 0)]) 24 rfl Try.underlying36 info40 rfl (by decide) (by omega) u5 x5_5 (⟨(rd_T40 x0_1 x9_5).f0, (rd_T40 x0_1 x9_5).f1, (rd_T40 x0_1 x9_5).f2⟩ : S40) [.int .i64 ((rd_T40 x0_1 x9_5).f0), .int .i64 ((rd_T40 x0_1 x9_5).f1), .int .i64 ((rd_T40 x0_1 x9_5).f2)] (fun k_ => (w.heap.size ≤ k_)) (fun _ => False) rfl rfl ?aP (fun _ hk => hk.elim) ?aF ?aO ?aB ?aS ?aL ?_; (case aP => exact k40_mkM _ _ _ (⟨(rd_T40 x0_1 x9_5).f0, (rd_T40 x0_1 x9_5).f1, (rd_T40 x0_1 x9_5).f2⟩ : S40)); (case aB => exact (by repeat (first | (with_reducible first | exact HB.out | apply below_alloc | apply pw_below_drewN | apply below_drew1) | exact HB.out))); (case aF => exact (fun k_ hk => (Nat.le_trans (below_size (by repeat (first | (with_reducible first | exact HB.out | apply below_alloc | apply pw_below_drewN | apply below_drew1) | exact HB.out))) hk))); (case aO => exact (by (with_reducible repeat (first | apply Kd.R_alloc | apply Kd.R_drewN | apply Kd.R_drew)); exact HO_5.out)); (case aS => exact (below_size (by repeat (first | (with_reducible first | exact HB.out | apply below_alloc | apply pw_below_drewN | apply below_drew1) | exact HB.out)))); (case aL => have := LMc18.out; omega); intro v123 w20 ho hb hg hat; rw [← Ny122.out] at ho; have n0_ := Aside0.mk (Kd.V_afterv (ok := (fun k_ => (P0_ k_ ∨ w.heap.size ≤ k_))) (by (with_reducible repeat (first | apply Kd.V_alloc | apply Kd.V_drewN | apply Kd.V_drew)); exact HO_0.out) hg hat); have n1_ := Aside0.mk (hb); have n2_ := Aside0.mk (ho); clear HO_0; clear HB; clear HO_5; have HO_0 := n0_; have HB := n1_; have HO124 := n2_; clear n0_ n1_ n2_; clear ho hb hg hat))
                      repeat (go_quiet (first | ((with_reducible refine gate_builtin (b := .append) (xs := #[.tmp 72, .tmp 77]) rfl ?_); at_builtin; refine Kd.R_append k40 (w0 := w) w.heap.size rfl (.tmp 72) (.tmp 77) 36 40 (.agg #[(.int .i64 0), (.int .i64 0), (.int .i64 0)]) 24 rfl Try.underlying36 info40 rfl (by decide) (by omega) u5 x5_5 (⟨(rd_T40 x0_1 x9_5).f0, (rd_T40 x0_1 x9_5).f1, (rd_T40 x0_1 x9_5).f2⟩ : S40) [.int .i64 ((rd_T40 x0_1 x9_5).f0), .int .i64 ((rd_T40 x0_1 x9_5).f1), .int .i64 ((rd_T40 x0_1 x9_5).f2)] (fun k_ => (w.heap.size ≤ k_)) (fun _ => False) rfl rfl ?aP (fun _ hk => hk.elim) ?aF ?aO ?aB ?aS ?aL ?_; (case aP => exact k40_mkM _ _ _ (⟨(rd_T40 x0_1 x9_5).f0, (rd_T40 x0_1 x9_5).f1, (rd_T40 x0_1 x9_5).f2⟩ : S40)); (case aB => exact (by repeat (first | (with_reducible first | exact HB.out | apply below_alloc | apply pw_below_drewN | apply below_drew1) | exact HB.out))); (case aF => exact (fun k_ hk => (Nat.le_trans (below_size (by repeat (first | (with_reducible first | exact HB.out | apply below_alloc | apply pw_below_drewN | apply below_drew1) | exact HB.out))) hk))); (case aO => exact (by (with_reducible repeat (first | apply Kd.R_alloc | apply Kd.R_drewN | apply Kd.R_drew)); exact HO_5.out)); (case aS => exact (below_size (by repeat (first | (with_reducible first | exact HB.out | apply below_alloc | apply pw_below_drewN | apply below_drew1) | exact HB.out)))); (case aL => have := LMc18.out; omega); intro v123 w20 ho hb hg hat; rw [← Ny122.out] at ho; have n0_ := Aside0.mk (Kd.V_afterv (ok := (fun k_ => (P0_ k_ ∨ w.heap.size ≤ k_))) (by (with_reducible repeat (first | apply Kd.V_alloc | apply Kd.V_drewN | apply Kd.V_drew)); exact HO_0.out) hg hat); have n1_ := Aside0.mk (hb); have n2_ := Aside0.mk (ho); clear HO_0; clear HB; clear HO_5; have HO_0 := n0_; have HB := n1_; have HO124 := n2_; clear n0_ n1_ n2_; clear ho hb hg hat)); try go_wp2_with (first | ((with_reducible refine gate_builtin (b := .append) (xs := #[.tmp 72, .tmp 77]) rfl ?_); at_builtin; refine Kd.R_append k40 (w0 := w) w.heap.size rfl (.tmp 72) (.tmp 77) 36 40 (.agg #[(.int .i64 0), (.int .i64 0), (.int .i64 0)]) 24 rfl Try.underlying36 info40 rfl (by decide) (by omega) u5 x5_5 (⟨(rd_T40 x0_1 x9_5).f0, (rd_T40 x0_1 x9_5).f1, (rd_T40 x0_1 x9_5).f2⟩ : S40) [.int .i64 ((rd_T40 x0_1 x9_5).f0), .int .i64 ((rd_T40 x0_1 x9_5).f1), .int .i64 ((rd_T40 x0_1 x9_5).f2)] (fun k_ => (w.heap.size ≤ k_)) (fun _ => False) rfl rfl ?aP (fun _ hk => hk.elim) ?aF ?aO ?aB ?aS ?aL ?_; (case aP => exact k40_mkM _ _ _ (⟨(rd_T40 x0_1 x9_5).f0, (rd_T40 x0_1 x9_5).f1, (rd_T40 x0_1 x9_5).f2⟩ : S40)); (case aB => exact (by repeat (first | (with_reducible first | exact HB.out | apply below_alloc | apply pw_below_drewN | apply below_drew1) | exact HB.out))); (case aF => exact (fun k_ hk => (Nat.le_trans (below_size (by repeat (first | (with_reducible first | exact HB.out | apply below_alloc | apply pw_below_drewN | apply below_drew1) | exact HB.out))) hk))); (case aO => exact (by (with_reducible repeat (first | apply Kd.R_alloc | apply Kd.R_drewN | apply Kd.R_drew)); exact HO_5.out)); (case aS => exact (below_size (by repeat (first | (with_reducible first | exact HB.out | apply below_alloc | apply pw_below_drewN | apply below_drew1) | exact HB.out)))); (case aL => have := LMc18.out; omega); intro v123 w20 ho hb hg hat; rw [← Ny122.out] at ho; have n0_ := Aside0.mk (Kd.V_afterv (ok := (fun k_ => (P0_ k_ ∨ w.heap.size ≤ k_))) (by (with_reducible repeat (first | apply Kd.V_alloc | apply Kd.V_drewN | apply Kd.V_drew)); exact HO_0.out) hg hat); have n1_ := Aside0.mk (hb); have n2_ := Aside0.mk (ho); clear HO_0; clear HB; clear HO_5; have HO_0 := n0_; have HB := n1_; have HO124 := n2_; clear n0_ n1_ n2_; clear ho hb hg hat)))
                      go_roundg kj11
                      case measure => have := HK1.out; have := HK2.out; have := HJ7.out; have := HJ9.out; have := HK5.out; have := HJ11.out; omega
                      case rel => exact ⟨(y122), (wrap64 (x9_5 + 1)), (x10_5), (by first | rfl | (simp; done) | (simp [*]; done)), (by first | rfl | (simp; done) | (simp [*]; done)), H', ⟨by have := HK1.out; have := HK2.out; have := HJ7.out; have := HJ9.out; have := HK5.out; have := HJ11.out; omega⟩, ⟨by (with_reducible repeat (first | apply Kd.V_alloc | apply Kd.V_drewN | apply Kd.V_drew)); exact HO_0.out⟩, ⟨by (with_reducible repeat (first | apply Kd.R_alloc | apply Kd.R_drewN | apply Kd.R_drew)); exact HO124.out⟩, ⟨by repeat (first | (with_reducible first | exact HB.out | apply below_alloc | apply pw_below_drewN | apply below_drew1) | exact HB.out)⟩⟩
                     ·rw [if_neg c18] at H
                      exact absurd H (by simp)
                    ·rw [if_neg c17] at H
                     exact absurd H (by simp)
                   ·rw [if_neg c16] at H
                    exact absurd H (by simp)
                  ·rw [if_neg c15] at H
                   have c15b0 : decide (x8_9 ≤ x10_5) = false := decide_eq_false c15
                   clear c15
                   by_cases c21 : x9_5 < x7_7
                   ·rw [if_pos c21] at H
                    have c21b0 : decide (x9_5 < x7_7) = true := decide_eq_true c21
                    clear c21
                    by_cases c22 : 0 ≤ x9_5
                    ·rw [if_pos c22] at H
                     have c22b0 : decide (0 ≤ x9_5) = true := decide_eq_true c22
                     clear c22
                     by_cases c23 : x9_5 < (x0_1.length : Int)
                     ·rw [if_pos c23] at H
                      have c23b0 : decide (x9_5 < (x0_1.length : Int)) = true := decide_eq_true c23
                      clear c23
                      by_cases c24 : 0 ≤ x10_5
                      ·rw [if_pos c24] at H
                       have c24b0 : decide (0 ≤ x10_5) = true := decide_eq_true c24
                       clear c24
                       by_cases c25 : x10_5 < (x0_1.length : Int)
                       ·rw [if_pos c25] at H
                        have c25b0 : decide (x10_5 < (x0_1.length : Int)) = true := decide_eq_true c25
                        clear c25
                        by_cases c26 : ((rd_T40 x0_1 x9_5).f0) ≤ ((rd_T40 x0_1 x10_5).f0)
                        ·rw [if_pos c26] at H
                         have c26b0 : decide (((rd_T40 x0_1 x9_5).f0) ≤ ((rd_T40 x0_1 x10_5).f0)) = true := decide_eq_true c26
                         clear c26
                         by_cases c27 : x5_5.length < 5864062014805
                         ·rw [if_pos c27] at H
                          have LMc27 := Aside0.mk c27
                          clear c27
                          obtain ⟨y128, hy128⟩ : ∃ y_ : List (S40), y_ = (x5_5 ++ [(⟨(rd_T40 x0_1 x9_5).f0, (rd_T40 x0_1 x9_5).f1, (rd_T40 x0_1 x9_5).f2⟩ : S40)]) := ⟨_, rfl⟩
                          replace H : (barrowref01_sorted.l2 kj11 x0_1 (l0.length : Int) x4_1 y128 x6_2 x7_7 x8_9 (wrap64 (x9_5 + 1)) x10_5) = some r := by first | (rw [hy128]; with_reducible exact H) | (have H2_ := (Option.bind_some _ _).symm.trans H; rw [hy128]; with_reducible exact H2_) | (have H2_ := (Option.bind_some _ _).symm.trans H; with_reducible exact H2_) | with_reducible exact H | (rw [hy128]; exact H) | exact H
                          have Ny128 := Aside0.mk hy128
                          clear hy128
                          have H' := Aside0.mk H
                          clear H
                          obtain ⟨Ao28, co28, eo28⟩ := Kd.V_slice HO_0.out
                          subst eo28
                          have p125 : 0 ≤ (x9_5 : Int) := of_decide_eq_true (by first | (with_reducible assumption) | assumption)
                          have q125 : x9_5 < (x0_1.length : Int) := of_decide_eq_true (by first | (with_reducible assumption) | assumption)
                          obtain ⟨ad125, e125, hx125_0, hx125_1, hx125_2⟩ := at_T40 (Kd.V_reads' HO_0.out).2.2 x9_5 p125 q125
                          cases e125
                          replace p125 := eq_true p125
                          replace q125 := eq_true q125
                          have p126 : 0 ≤ (x10_5 : Int) := of_decide_eq_true (by first | (with_reducible assumption) | assumption)
                          have q126 : x10_5 < (x0_1.length : Int) := of_decide_eq_true (by first | (with_reducible assumption) | assumption)
                          obtain ⟨ad126, e126, hx126_0, hx126_1, hx126_2⟩ := at_T40 (Kd.V_reads' HO_0.out).2.2 x10_5 p126 q126
                          obtain rfl : ad125 = ad126 := (by injection e126)
                          replace p126 := eq_true p126
                          replace q126 := eq_true q126
                          have p127 : 0 ≤ (x9_5 : Int) := of_decide_eq_true (by first | (with_reducible assumption) | assumption)
                          have q127 : x9_5 < (x0_1.length : Int) := of_decide_eq_true (by first | (with_reducible assumption) | assumption)
                          obtain ⟨ad127, e127, hx127_0, hx127_1, hx127_2⟩ := at_T40 (Kd.V_reads' HO_0.out).2.2 x9_5 p127 q127
                          obtain rfl : ad125 = ad127 := (by injection e127)
                          replace p127 := eq_true p127
                          replace q127 := eq_true q127
                          go_wp2_with (first | ((with_reducible refine gate_builtin (b := .append) (xs := #[.tmp 72, .tmp 77]) rfl ?_); at_builtin; refine Kd.R_append k40 (w0 := w) w.heap.size rfl (.tmp 72) (.tmp 77) 36 40 (.agg #[(.int .i64 0), (.int .i64 0), (.int .i64 0)]) 24 rfl Try.underlying36 info40 rfl (by decide) (by omega) u5 x5_5 (⟨(rd_T40 x0_1 x9_5).f0, (rd_T40 x0_1 x9_5).f1, (rd_T40 x0_1 x9_5).f2⟩ : S40) [.int .i64 ((rd_T40 x0_1 x9_5).f0), .int .i64 ((rd_T40 x0_1 x9_5).f1), .int .i64 ((rd_T40 x0_1 x9_5).f2)] (fun k_ => (w.heap.size ≤ k_)) (fun _ => False) rfl rfl ?aP (fun _ hk => hk.elim) ?aF ?aO ?aB ?aS ?aL ?_; (case aP => exact k40_mkM _ _ _ (⟨(rd_T40 x0_1 x9_5).f0, (rd_T40 x0_1 x9_5).f1, (rd_T40 x0_1 x9_5).f2⟩ : S40)); (case aB => exact (by repeat (first | (with_reducible first | exact HB.out | apply below_alloc | apply pw_below_drewN | apply below_drew1) | exact HB.out))); (case aF => exact (fun k_ hk => (Nat.le_trans (below_size (by repeat (first | (with_reducible first | exact HB.out | apply below_alloc | apply pw_below_drewN | apply below_drew1) | exact HB.out))) hk))); (case aO => exact (by (with_reducible repeat (first | apply Kd.R_alloc | apply Kd.R_drewN | apply Kd.R_drew)); exact HO_5.out)); (case aS => exact (below_size (by repeat (first | (with_reducible first | exact HB.out | apply below_alloc | apply pw_below_drewN | apply below_drew1) | exact HB.out)))); (case aL => have := LMc27.out; omega); intro v129 w29 ho hb hg hat; rw [← Ny128.out] at ho; have n0_ := Aside0.mk (Kd.V_afterv (ok := (fun k_ => (P0_ k_ ∨ w.heap.size ≤ k_))) (by (with_reducible repeat (first | apply Kd.V_alloc | apply Kd.V_drewN | apply Kd.V_drew)); exact HO_0.out) hg hat); have n1_ := Aside0.mk (hb); have n2_ := Aside0.mk (ho); clear HO_0; clear HB; clear HO_5; have HO_0 := n0_; have HB := n1_; have HO130 := n2_; clear n0_ n1_ n2_; clear ho hb hg hat))
                          repeat (go_quiet (first | ((with_reducible refine gate_builtin (b := .append) (xs := #[.tmp 72, .tmp 77]) rfl ?_); at_builtin; refine Kd.R_append k40 (w0 := w) w.heap.size rfl (.tmp 72) (.tmp 77) 36 40 (.agg #[(.int .i64 0), (.int .i64 0), (.int .i64 0)]) 24 rfl Try.underlying36 info40 rfl (by decide) (by omega) u5 x5_5 (⟨(rd_T40 x0_1 x9_5).f0, (rd_T40 x0_1 x9_5).f1, (rd_T40 x0_1 x9_5).f2⟩ : S40) [.int .i64 ((rd_T40 x0_1 x9_5).f0), .int .i64 ((rd_T40 x0_1 x9_5).f1), .int .i64 ((rd_T40 x0_1 x9_5).f2)] (fun k_ => (w.heap.size ≤ k_)) (fun _ => False) rfl rfl ?aP (fun _ hk => hk.elim) ?aF ?aO ?aB ?aS ?aL ?_; (case aP => exact k40_mkM _ _ _ (⟨(rd_T40 x0_1 x9_5).f0, (rd_T40 x0_1 x9_5).f1, (rd_T40 x0_1 x9_5).f2⟩ : S40)); (case aB => exact (by repeat (first | (with_reducible first | exact HB.out | apply below_alloc | apply pw_below_drewN | apply below_drew1) | exact HB.out))); (case aF => exact (fun k_ hk => (Nat.le_trans (below_size (by repeat (first | (with_reducible first | exact HB.out | apply below_alloc | apply pw_below_drewN | apply below_drew1) | exact HB.out))) hk))); (case aO => exact (by (with_reducible repeat (first | apply Kd.R_alloc | apply Kd.R_drewN | apply Kd.R_drew)); exact HO_5.out)); (case aS => exact (below_size (by repeat (first | (with_reducible first | exact HB.out | apply below_alloc | apply pw_below_drewN | apply below_drew1) | exact HB.out)))); (case aL => have := LMc27.out; omega); intro v129 w29 ho hb hg hat; rw [← Ny128.out] at ho; have n0_ := Aside0.mk (Kd.V_afterv (ok := (fun k_ => (P0_ k_ ∨ w.heap.size ≤ k_))) (by (with_reducible repeat (first | apply Kd.V_alloc | apply Kd.V_drewN | apply Kd.V_drew)); exact HO_0.out) hg hat); have n1_ := Aside0.mk (hb); have n2_ := Aside0.mk (ho); clear HO_0; clear HB; clear HO_5; have HO_0 := n0_; have HB := n1_; have HO130 := n2_; clear n0_ n1_ n2_; clear ho hb hg hat)); try go_wp2_with (first | ((with_reducible refine gate_builtin (b := .append) (xs := #[.tmp 72, .tmp 77]) rfl ?_); at_builtin; refine Kd.R_append k40 (w0 := w) w.heap.size rfl (.tmp 72) (.tmp 77) 36 40 (.agg #[(.int .i64 0), (.int .i64 0), (.int .i64 0)]) 24 rfl Try.underlying36 info40 rfl (by decide) (by omega) u5 x5_5 (⟨(rd_T40 x0_1 x9_5).f0, (rd_T40 x0_1 x9_5).f1, (rd_T40 x0_1 x9_5).f2⟩ : S40) [.int .i64 ((rd_T40 x0_1 x9_5).f0), .int .i64 ((rd_T40 x0_1 x9_5).f1), .int .i64 ((rd_T40 x0_1 x9_5).f2)] (fun k_ => (w.heap.size ≤ k_)) (fun _ => False) rfl rfl ?aP (fun _ hk => hk.elim) ?aF ?aO ?aB ?aS ?aL ?_; (case aP => exact k40_mkM _ _ _ (⟨(rd_T40 x0_1 x9_5).f0, (rd_T40 x0_1 x9_5).f1, (rd_T40 x0_1 x9_5).f2⟩ : S40)); (case aB => exact (by repeat (first | (with_reducible first | exact HB.out | apply below_alloc | apply pw_below_drewN | apply below_drew1) | exact HB.out))); (case aF => exact (fun k_ hk => (Nat.le_trans (below_size (by repeat (first | (with_reducible first | exact HB.out | apply below_alloc | apply pw_below_drewN | apply below_drew1) | exact HB.out))) hk))); (case aO => exact (by (with_reducible repeat (first | apply Kd.R_alloc | apply Kd.R_drewN | apply Kd.R_drew)); exact HO_5.out)); (case aS => exact (below_size (by repeat (first | (with_reducible first | exact HB.out | apply below_alloc | apply pw_below_drewN | apply below_drew1) | exact HB.out)))); (case aL => have := LMc27.out; omega); intro v129 w29 ho hb hg hat; rw [← Ny128.out] at ho; have n0_ := Aside0.mk (Kd.V_afterv (ok := (fun k_ => (P0_ k_ ∨ w.heap.size ≤ k_))) (by (with_reducible repeat (first | apply Kd.V_alloc | apply Kd.V_drewN | apply Kd.V_drew)); exact HO_0.out) hg hat); have n1_ := Aside0.mk (hb); have n2_ := Aside0.mk (ho); clear HO_0; clear HB; clear HO_5; have HO_0 := n0_; have HB := n1_; have HO130 := n2_; clear n0_ n1_ n2_; clear ho hb hg hat)))
                          go_roundg kj11
                          case measure => have := HK1.out; have := HK2.out; have := HJ7.out; have := HJ9.out; have := HK5.out; have := HJ11.out; omega
                          case rel => exact ⟨(y128), (wrap64 (x9_5 + 1)), (x10_5), (by first | rfl | (simp; done) | (simp [*]; done)), (by first | rfl | (simp; done) | (simp [*]; done)), H', ⟨by have := HK1.out; have := HK2.out; have := HJ7.out; have := HJ9.out; have := HK5.out; have := HJ11.out; omega⟩, ⟨by (with_reducible repeat (first | apply Kd.V_alloc | apply Kd.V_drewN | apply Kd.V_drew)); exact HO_0.out⟩, ⟨by (with_reducible repeat (first | apply Kd.R_alloc | apply Kd.R_drewN | apply Kd.R_drew)); exact HO130.out⟩, ⟨by repeat (first | (with_reducible first | exact HB.out | apply below_alloc | apply pw_below_drewN | apply below_drew1) | exact HB.out)⟩⟩
                         ·rw [if_neg c27] at H
                          exact absurd H (by simp)
                        ·rw [if_neg c26] at H
                         have c26b0 : decide (((rd_T40 x0_1 x9_5).f0) ≤ ((rd_T40 x0_1 x10_5).f0)) = false := decide_eq_false c26
                         clear c26
                         by_cases c30 : x5_5.length < 5864062014805
                         ·rw [if_pos c30] at H
                          have LMc30 := Aside0.mk c30
                          clear c30
                          obtain ⟨y132, hy132⟩ : ∃ y_ : List (S40), y_ = (x5_5 ++ [(⟨(rd_T40 x0_1 x10_5).f0, (rd_T40 x0_1 x10_5).f1, (rd_T40 x0_1 x10_5).f2⟩ : S40)]) := ⟨_, rfl⟩
                          replace H : (barrowref01_sorted.l2 kj11 x0_1 (l0.length : Int) x4_1 y132 x6_2 x7_7 x8_9 x9_5 (wrap64 (x10_5 + 1))) = some r := by first | (rw [hy132]; with_reducible exact H) | (have H2_ := (Option.bind_some _ _).symm.trans H; rw [hy132]; with_reducible exact H2_) | (have H2_ := (Option.bind_some _ _).symm.trans H; with_reducible exact H2_) | with_reducible exact H | (rw [hy132]; exact H) | exact H
                          have Ny132 := Aside0.mk hy132
                          clear hy132
                          have H' := Aside0.mk H
                          clear H
                          obtain ⟨Ao31, co31, eo31⟩ := Kd.V_slice HO_0.out
                          subst eo31
                          have p125 : 0 ≤ (x9_5 : Int) := of_decide_eq_true (by first | (with_reducible assumption) | assumption)
                          have q125 : x9_5 < (x0_1.length : Int) := of_decide_eq_true (by first | (with_reducible assumption) | assumption)
                          obtain ⟨ad125, e125, hx125_0, hx125_1, hx125_2⟩ := at_T40 (Kd.V_reads' HO_0.out).2.2 x9_5 p125 q125
                          cases e125
                          replace p125 := eq_true p125
                          replace q125 := eq_true q125
                          have p126 : 0 ≤ (x10_5 : Int) := of_decide_eq_true (by first | (with_reducible assumption) | assumption)
                          have q126 : x10_5 < (x0_1.length : Int) := of_decide_eq_true (by first | (with_reducible assumption) | assumption)
                          obtain ⟨ad126, e126, hx126_0, hx126_1, hx126_2⟩ := at_T40 (Kd.V_reads' HO_0.out).2.2 x10_5 p126 q126
                          obtain rfl : ad125 = ad126 := (by injection e126)
                          replace p126 := eq_true p126
                          replace q126 := eq_true q126
                          have p131 : 0 ≤ (x10_5 : Int) := of_decide_eq_true (by first | (with_reducible assumption) | assumption)
                          have q131 : x10_5 < (x0_1.length : Int) := of_decide_eq_true (by first | (with_reducible assumption) | assumption)
                          obtain ⟨ad131, e131, hx131_0, hx131_1, hx131_2⟩ := at_T40 (Kd.V_reads' HO_0.out).2.2 x10_5 p131 q131
                          obtain rfl : ad125 = ad131 := (by injection e131)
                          replace p131 := eq_true p131
                          replace q131 := eq_true q131
                          go_wp2_with (first | ((with_reducible refine gate_builtin (b := .append) (xs := #[.tmp 81, .tmp 86]) rfl ?_); at_builtin; refine Kd.R_append k40 (w0 := w) w.heap.size rfl (.tmp 81) (.tmp 86) 36 40 (.agg #[(.int .i64 0), (.int .i64 0), (.int .i64 0)]) 24 rfl Try.underlying36 info40 rfl (by decide) (by omega) u5 x5_5 (⟨(rd_T40 x0_1 x10_5).f0, (rd_T40 x0_1 x10_5).f1, (rd_T40 x0_1 x10_5).f2⟩ : S40) [.int .i64 ((rd_T40 x0_1 x10_5).f0), .int .i64 ((rd_T40 x0_1 x10_5).f1), .int .i64 ((rd_T40 x0_1 x10_5).f2)] (fun k_ => (w.heap.size ≤ k_)) (fun _ => False) rfl rfl ?aP (fun _ hk => hk.elim) ?aF ?aO ?aB ?aS ?aL ?_; (case aP => exact k40_mkM _ _ _ (⟨(rd_T40 x0_1 x10_5).f0, (rd_T40 x0_1 x10_5).f1, (rd_T40 x0_1 x10_5).f2⟩ : S40)); (case aB => exact (by repeat (first | (with_reducible first | exact HB.out | apply below_alloc | apply pw_below_drewN | apply below_drew1) | exact HB.out))); (case aF => exact (fun k_ hk => (Nat.le_trans (below_size (by repeat (first | (with_reducible first | exact HB.out | apply below_alloc | apply pw_below_drewN | apply below_drew1) | exact HB.out))) hk))); (case aO => exact (by (with_reducible repeat (first | apply Kd.R_alloc | apply Kd.R_drewN | apply Kd.R_drew)); exact HO_5.out)); (case aS => exact (below_size (by repeat (first | (with_reducible first | exact HB.out | apply below_alloc | apply pw_below_drewN | apply below_drew1) | exact HB.out)))); (case aL => have := LMc30.out; omega); intro v133 w32 ho hb hg hat; rw [← Ny132.out] at ho; have n0_ := Aside0.mk (Kd.V_afterv (ok := (fun k_ => (P0_ k_ ∨ w.heap.size ≤ k_))) (by (with_reducible repeat (first | apply Kd.V_alloc | apply Kd.V_drewN | apply Kd.V_drew)); exact HO_0.out) hg hat); have n1_ := Aside0.mk (hb); have n2_ := Aside0.mk (ho); clear HO_0; clear HB; clear HO_5; have HO_0 := n0_; have HB := n1_; have HO134 := n2_; clear n0_ n1_ n2_; clear ho hb hg hat))
                          repeat (go_quiet (first | ((with_reducible refine gate_builtin (b := .append) (xs := #[.tmp 81, .tmp 86]) rfl ?_); at_builtin; refine Kd.R_append k40 (w0 := w) w.heap.size rfl (.tmp 81) (.tmp 86) 36 40 (.agg #[(.int .i64 0), (.int .i64 0), (.int .i64 0)]) 24 rfl Try.underlying36 info40 rfl (by decide) (by omega) u5 x5_5 (⟨(rd_T40 x0_1 x10_5).f0, (rd_T40 x0_1 x10_5).f1, (rd_T40 x0_1 x10_5).f2⟩ : S40) [.int .i64 ((rd_T40 x0_1 x10_5).f0), .int .i64 ((rd_T40 x0_1 x10_5).f1), .int .i64 ((rd_T40 x0_1 x10_5).f2)] (fun k_ => (w.heap.size ≤ k_)) (fun _ => False) rfl rfl ?aP (fun _ hk => hk.elim) ?aF ?aO ?aB ?aS ?aL ?_; (case aP => exact k40_mkM _ _ _ (⟨(rd_T40 x0_1 x10_5).f0, (rd_T40 x0_1 x10_5).f1, (rd_T40 x0_1 x10_5).f2⟩ : S40)); (case aB => exact (by repeat (first | (with_reducible first | exact HB.out | apply below_alloc | apply pw_below_drewN | apply below_drew1) | exact HB.out))); (case aF => exact (fun k_ hk => (Nat.le_trans (below_size (by repeat (first | (with_reducible first | exact HB.out | apply below_alloc | apply pw_below_drewN | apply below_drew1) | exact HB.out))) hk))); (case aO => exact (by (with_reducible repeat (first | apply Kd.R_alloc | apply Kd.R_drewN | apply Kd.R_drew)); exact HO_5.out)); (case aS => exact (below_size (by repeat (first | (with_reducible first | exact HB.out | apply below_alloc | apply pw_below_drewN | apply below_drew1) | exact HB.out)))); (case aL => have := LMc30.out; omega); intro v133 w32 ho hb hg hat; rw [← Ny132.out] at ho; have n0_ := Aside0.mk (Kd.V_afterv (ok := (fun k_ => (P0_ k_ ∨ w.heap.size ≤ k_))) (by (with_reducible repeat (first | apply Kd.V_alloc | apply Kd.V_drewN | apply Kd.V_drew)); exact HO_0.out) hg hat); have n1_ := Aside0.mk (hb); have n2_ := Aside0.mk (ho); clear HO_0; clear HB; clear HO_5; have HO_0 := n0_; have HB := n1_; have HO134 := n2_; clear n0_ n1_ n2_; clear ho hb hg hat)); try go_wp2_with (first | ((with_reducible refine gate_builtin (b := .append) (xs := #[.tmp 81, .tmp 86]) rfl ?_); at_builtin; refine Kd.R_append k40 (w0 := w) w.heap.size rfl (.tmp 81) (.tmp 86) 36 40 (.agg #[(.int .i64 0), (.int .i64 0), (.int .i64 0)]) 24 rfl Try.underlying36 info40 rfl (by decide) (by omega) u5 x5_5 (⟨(rd_T40 x0_1 x10_5).f0, (rd_T40 x0_1 x10_5).f1, (rd_T40 x0_1 x10_5).f2⟩ : S40) [.int .i64 ((rd_T40 x0_1 x10_5).f0), .int .i64 ((rd_T40 x0_1 x10_5).f1), .int .i64 ((rd_T40 x0_1 x10_5).f2)] (fun k_ => (w.heap.size ≤ k_)) (fun _ => False) rfl rfl ?aP (fun _ hk => hk.elim) ?aF ?aO ?aB ?aS ?aL ?_; (case aP => exact k40_mkM _ _ _ (⟨(rd_T40 x0_1 x10_5).f0, (rd_T40 x0_1 x10_5).f1, (rd_T40 x0_1 x10_5).f2⟩ : S40)); (case aB => exact (by repeat (first | (with_reducible first | exact HB.out | apply below_alloc | apply pw_below_drewN | apply below_drew1) | exact HB.out))); (case aF => exact (fun k_ hk => (Nat.le_trans (below_size (by repeat (first | (with_reducible first | exact HB.out | apply below_alloc | apply pw_below_drewN | apply below_drew1) | exact HB.out))) hk))); (case aO => exact (by (with_reducible repeat (first | apply Kd.R_alloc | apply Kd.R_drewN | apply Kd.R_drew)); exact HO_5.out)); (case aS => exact (below_size (by repeat (first | (with_reducible first | exact HB.out | apply below_alloc | apply pw_below_drewN | apply below_drew1) | exact HB.out)))); (case aL => have := LMc30.out; omega); intro v133 w32 ho hb hg hat; rw [← Ny132.out] at ho; have n0_ := Aside0.mk (Kd.V_afterv (ok := (fun k_ => (P0_ k_ ∨ w.heap.size ≤ k_))) (by (with_reducible repeat (first | apply Kd.V_alloc | apply Kd.V_drewN | apply Kd.V_drew)); exact HO_0.out) hg hat); have n1_ := Aside0.mk (hb); have n2_ := Aside0.mk (ho); clear HO_0; clear HB; clear HO_5; have HO_0 := n0_; have HB := n1_; have HO134 := n2_; clear n0_ n1_ n2_; clear ho hb hg hat)))
                          go_roundg kj11
                          case measure => have := HK1.out; have := HK2.out; have := HJ7.out; have := HJ9.out; have := HK5.out; have := HJ11.out; omega
                          case rel => exact ⟨(y132), (x9_5), (wrap64 (x10_5 + 1)), (by first | rfl | (simp; done) | (simp [*]; done)), (by first | rfl | (simp; done) | (simp [*]; done)), H', ⟨by have := HK1.out; have := HK2.out; have := HJ7.out; have := HJ9.out; have := HK5.out; have := HJ11.out; omega⟩, ⟨by (with_reducible repeat (first | apply Kd.V_alloc | apply Kd.V_drewN | apply Kd.V_drew)); exact HO_0.out⟩, ⟨by (with_reducible repeat (first | apply Kd.R_alloc | apply Kd.R_drewN | apply Kd.R_drew)); exact HO134.out⟩, ⟨by repeat (first | (with_reducible first | exact HB.out | apply below_alloc | apply pw_below_drewN | apply below_drew1) | exact HB.out)⟩⟩
                         ·rw [if_neg c30] at H
                          exact absurd H (by simp)
                       ·rw [if_neg c25] at H
                        exact absurd H (by simp)
                      ·rw [if_neg c24] at H
                       exact absurd H (by simp)
                     ·rw [if_neg c23] at H
                      exact absurd H (by simp)
                    ·rw [if_neg c22] at H
                     exact absurd H (by simp)
                   ·rw [if_neg c21] at H
                    have c21b0 : decide (x9_5 < x7_7) = false := decide_eq_false c21
                    clear c21
                    by_cases c33 : 0 ≤ x10_5
                    ·rw [if_pos c33] at H
                     have c33b0 : decide (0 ≤ x10_5) = true := decide_eq_true c33
                     clear c33
                     by_cases c34 : x10_5 < (x0_1.length : Int)
                     ·rw [if_pos c34] at H
                      have c34b0 : decide (x10_5 < (x0_1.length : Int)) = true := decide_eq_true c34
                      clear c34
                      by_cases c35 : x5_5.length < 5864062014805
                      ·rw [if_pos c35] at H
                       have LMc35 := Aside0.mk c35
                       clear c35
                       obtain ⟨y136, hy136⟩ : ∃ y_ : List (S40), y_ = (x5_5 ++ [(⟨(rd_T40 x0_1 x10_5).f0, (rd_T40 x0_1 x10_5).f1, (rd_T40 x0_1 x10_5).f2⟩ : S40)]) := ⟨_, rfl⟩
                       replace H : (barrowref01_sorted.l2 kj11 x0_1 (l0.length : Int) x4_1 y136 x6_2 x7_7 x8_9 x9_5 (wrap64 (x10_5 + 1))) = some r := by first | (rw [hy136]; with_reducible exact H) | (have H2_ := (Option.bind_some _ _).symm.trans H; rw [hy136]; with_reducible exact H2_) | (have H2_ := (Option.bind_some _ _).symm.trans H; with_reducible exact H2_) | with_reducible exact H | (rw [hy136]; exact H) | exact H
                       have Ny136 := Aside0.mk hy136
                       clear hy136
                       have H' := Aside0.mk H
                       clear H
                       obtain ⟨Ao36, co36, eo36⟩ := Kd.V_slice HO_0.out
                       subst eo36
                       have p135 : 0 ≤ (x10_5 : Int) := of_decide_eq_true (by first | (with_reducible assumption) | assumption)
                       have q135 : x10_5 < (x0_1.length : Int) := of_decide_eq_true (by first | (with_reducible assumption) | assumption)
                       obtain ⟨ad135, e135, hx135_0, hx135_1, hx135_2⟩ := at_T40 (Kd.V_reads' HO_0.out).2.2 x10_5 p135 q135
                       cases e135
                       replace p135 := eq_true p135
                       replace q135 := eq_true q135
                       go_wp2_with (first | ((with_reducible refine gate_builtin (b := .append) (xs := #[.tmp 81, .tmp 86]) rfl ?_); at_builtin; refine Kd.R_append k40 (w0 := w) w.heap.size rfl (.tmp 81) (.tmp 86) 36 40 (.agg #[(.int .i64 0), (.int .i64 0), (.int .i64 0)]) 24 rfl Try.underlying36 info40 rfl (by decide) (by omega) u5 x5_5 (⟨(rd_T40 x0_1 x10_5).f0, (rd_T40 x0_1 x10_5).f1, (rd_T40 x0_1 x10_5).f2⟩ : S40) [.int .i64 ((rd_T40 x0_1 x10_5).f0), .int .i64 ((rd_T40 x0_1 x10_5).f1), .int .i64 ((rd_T40 x0_1 x10_5).f2)] (fun k_ => (w.heap.size ≤ k_)) (fun _ => False) rfl rfl ?aP (fun _ hk => hk.elim) ?aF ?aO ?aB ?aS ?aL ?_; (case aP => exact k40_mkM _ _ _ (⟨(rd_T40 x0_1 x10_5).f0, (rd_T40 x0_1 x10_5).f1, (rd_T40 x0_1 x10_5).f2⟩ : S40)); (case aB => exact (by repeat (first | (with_reducible first | exact HB.out | apply below_alloc | apply pw_below_drewN | apply below_drew1) | exact HB.out))); (case aF => exact (fun k_ hk => (Nat.le_trans (below_size (by repeat (first | (with_reducible first | exact HB.out | apply below_alloc | apply pw_below_drewN | apply below_drew1) | exact HB.out))) hk))); (case aO => exact (by (with_reducible repeat (first | apply Kd.R_alloc | apply Kd.R_drewN | apply Kd.R_drew)); exact HO_5.out)); (case aS => exact (below_size (by repeat (first | (with_reducible first | exact HB.out | apply below_alloc | apply pw_below_drewN | apply below_drew1) | exact HB.out)))); (case aL => have := LMc35.out; omega); intro v137 w37 ho hb hg hat; rw [← Ny136.out] at ho; have n0_ := Aside0.mk (Kd.V_afterv (ok := (fun k_ => (P0_ k_ ∨ w.heap.size ≤ k_))) (by (with_reducible repeat (first | apply Kd.V_alloc | apply Kd.V_drewN | apply Kd.V_drew)); exact HO_0.out) hg hat); have n1_ := Aside0.mk (hb); have n2_ := Aside0.mk (ho); clear HO_0; clear HB; clear HO_5; have HO_0 := n0_; have HB := n1_; have HO138 := n2_; clear n0_ n1_ n2_; clear ho hb hg hat))
                       repeat (go_quiet (first | ((with_reducible refine gate_builtin (b := .append) (xs := #[.tmp 81, .tmp 86]) rfl ?_); at_builtin; refine Kd.R_append k40 (w0 := w) w.heap.size rfl (.tmp 81) (.tmp 86) 36 40 (.agg #[(.int .i64 0), (.int .i64 0), (.int .i64 0)]) 24 rfl Try.underlying36 info40 rfl (by decide) (by omega) u5 x5_5 (⟨(rd_T40 x0_1 x10_5).f0, (rd_T40 x0_1 x10_5).f1, (rd_T40 x0_1 x10_5).f2⟩ : S40) [.int .i64 ((rd_T40 x0_1 x10_5).f0), .int .i64 ((rd_T40 x0_1 x10_5).f1), .int .i64 ((rd_T40 x0_1 x10_5).f2)] (fun k_ => (w.heap.size ≤ k_)) (fun _ => False) rfl rfl ?aP (fun _ hk => hk.elim) ?aF ?aO ?aB ?aS ?aL ?_; (case aP => exact k40_mkM _ _ _ (⟨(rd_T40 x0_1 x10_5).f0, (rd_T40 x0_1 x10_5).f1, (rd_T40 x0_1 x10_5).f2⟩ : S40)); (case aB => exact (by repeat (first | (with_reducible first | exact HB.out | apply below_alloc | apply pw_below_drewN | apply below_drew1) | exact HB.out))); (case aF => exact (fun k_ hk => (Nat.le_trans (below_size (by repeat (first | (with_reducible first | exact HB.out | apply below_alloc | apply pw_below_drewN | apply below_drew1) | exact HB.out))) hk))); (case aO => exact (by (with_reducible repeat (first | apply Kd.R_alloc | apply Kd.R_drewN | apply Kd.R_drew)); exact HO_5.out)); (case aS => exact (below_size (by repeat (first | (with_reducible first | exact HB.out | apply below_alloc | apply pw_below_drewN | apply below_drew1) | exact HB.out)))); (case aL => have := LMc35.out; omega); intro v137 w37 ho hb hg hat; rw [← Ny136.out] at ho; have n0_ := Aside0.mk (Kd.V_afterv (ok := (fun k_ => (P0_ k_ ∨ w.heap.size ≤ k_))) (by (with_reducible repeat (first | apply Kd.V_alloc | apply Kd.V_drewN | apply Kd.V_drew)); exact HO_0.out) hg hat); have n1_ := Aside0.mk (hb); have n2_ := Aside0.mk (ho); clear HO_0; clear HB; clear HO_5; have HO_0 := n0_; have HB := n1_; have HO138 := n2_; clear n0_ n1_ n2_; clear ho hb hg hat)); try go_wp2_with (first | ((with_reducible refine gate_builtin (b := .append) (xs := #[.tmp 81, .tmp 86]) rfl ?_); at_builtin; refine Kd.R_append k40 (w0 := w) w.heap.size rfl (.tmp 81) (.tmp 86) 36 40 (.agg #[(.int .i64 0), (.int .i64 0), (.int .i64 0)]) 24 rfl Try.underlying36 info40 rfl (by decide) (by omega) u5 x5_5 (⟨(rd_T40 x0_1 x10_5).f0, (rd_T40 x0_1 x10_5).f1, (rd_T40 x0_1 x10_5).f2⟩ : S40) [.int .i64 ((rd_T40 x0_1 x10_5).f0), .int .i64 ((rd_T40 x0_1 x10_5).f1), .int .i64 ((rd_T40 x0_1 x10_5).f2)] (fun k_ => (w.heap.size ≤ k_)) (fun _ => False) rfl rfl ?aP (fun _ hk => hk.elim) ?aF ?aO ?aB ?aS ?aL ?_; (case aP => exact k40_mkM _ _ _ (⟨(rd_T40 x0_1 x10_5).f0, (rd_T40 x0_1 x10_5).f1, (rd_T40 x0_1 x10_5).f2⟩ : S40)); (case aB => exact (by repeat (first | (with_reducible first | exact HB.out | apply below_alloc | apply pw_below_drewN | apply below_drew1) | exact HB.out))); (case aF => exact (fun k_ hk => (Nat.le_trans (below_size (by repeat (first | (with_reducible first | exact HB.out | apply below_alloc | apply pw_below_drewN | apply below_drew1) | exact HB.out))) hk))); (case aO => exact (by (with_reducible repeat (first | apply Kd.R_alloc | apply Kd.R_drewN | apply Kd.R_drew)); exact HO_5.out)); (case aS => exact (below_size (by repeat (first | (with_reducible first | exact HB.out | apply below_alloc | apply pw_below_drewN | apply below_drew1) | exact HB.out)))); (case aL => have := LMc35.out; omega); intro v137 w37 ho hb hg hat; rw [← Ny136.out] at ho; have n0_ := Aside0.mk (Kd.V_afterv (ok := (fun k_ => (P0_ k_ ∨ w.heap.size ≤ k_))) (by (with_reducible repeat (first | apply Kd.V_alloc | apply Kd.V_drewN | apply Kd.V_drew)); exact HO_0.out) hg hat); have n1_ := Aside0.mk (hb); have n2_ := Aside0.mk (ho); clear HO_0; clear HB; clear HO_5; have HO_0 := n0_; have HB := n1_; have HO138 := n2_; clear n0_ n1_ n2_; clear ho hb hg hat)))
                       go_roundg kj11
                       case measure => have := HK1.out; have := HK2.out; have := HJ7.out; have := HJ9.out; have := HK5.out; have := HJ11.out; omega
                       case rel => exact ⟨(y136), (x9_5), (wrap64 (x10_5 + 1)), (by first | rfl | (simp; done) | (simp [*]; done)), (by first | rfl | (simp; done) | (simp [*]; done)), H', ⟨by have := HK1.out; have := HK2.out; have := HJ7.out; have := HJ9.out; have := HK5.out; have := HJ11.out; omega⟩, ⟨by (with_reducible repeat (first | apply Kd.V_alloc | apply Kd.V_drewN | apply Kd.V_drew)); exact HO_0.out⟩, ⟨by (with_reducible repeat (first | apply Kd.R_alloc | apply Kd.R_drewN | apply Kd.R_drew)); exact HO138.out⟩, ⟨by repeat (first | (with_reducible first | exact HB.out | apply below_alloc | apply pw_below_drewN | apply below_drew1) | exact HB.out)⟩⟩
                      ·rw [if_neg c35] at H
                       exact absurd H (by simp)
                     ·rw [if_neg c34] at H
                      exact absurd H (by simp)
                    ·rw [if_neg c33] at H
                     exact absurd H (by simp)
                 ·replace c14 := Bool.eq_false_iff.mpr c14
                  subst c14
                  have H1 : (barrowref01_sorted.l1 kj11 x0_1 (l0.length : Int) x4_1 x5_5 (wrap64 (x6_2 + (wrap64 (2 * x4_1))))) = some r := by rw [if_neg (show ¬ (false = true) by decide)] at H; exact H
                  clear H
                  have H := H1
                  clear H1
                  have H' := Aside0.mk H
                  clear H
                  go_wp2
                  repeat (go_quiet (fail); try go_wp2)
                  go_roundg kj11
                  case measure => have := HK1.out; have := HK2.out; have := HJ7.out; have := HJ9.out; have := HK5.out; have := HJ11.out; omega
                  case rel => exact ⟨(x5_5), (wrap64 (x6_2 + (wrap64 (2 * x4_1)))), (by first | rfl | (simp; done) | (simp [*]; done)), H', ⟨by have := HK1.out; have := HK2.out; have := HJ7.out; have := HJ9.out; have := HK5.out; have := HJ11.out; omega⟩, ⟨by (with_reducible repeat (first | apply Kd.V_alloc | apply Kd.V_drewN | apply Kd.V_drew)); exact HO_0.out⟩, ⟨by (with_reducible repeat (first | apply Kd.R_alloc | apply Kd.R_drewN | apply Kd.R_drew)); exact HO_5.out⟩, ⟨by repeat (first | (with_reducible first | exact HB.out | apply below_alloc | apply pw_below_drewN | apply below_drew1) | exact HB.out)⟩⟩
        ·rw [if_neg c7] at H
         have c7b0 : decide (x6_2 < (l0.length : Int)) = false := decide_eq_false c7
         clear c7
         have H' := Aside0.mk H
         clear H
         go_wp2
         repeat (go_quiet (fail); try go_wp2)
         go_roundg k2
         case measure => have := HK1.out; have := HK2.out; omega
         case rel => exact ⟨(x5_2), (wrap64 (2 * x4_1)), (by first | rfl | (simp; done) | (simp [*]; done)), H', ⟨by have := HK1.out; have := HK2.out; omega⟩, ⟨Kd.V_mono (Kd.R_V (by (with_reducible repeat (first | apply Kd.R_alloc | apply Kd.R_drewN | apply Kd.R_drew)); exact HO_5.out)) (fun k_ hk => by first | exact ⟨(.inr (hk.1)), hk.2⟩ | exact (.inr (hk)))⟩, ⟨by repeat (first | (with_reducible first | exact HB.out | apply below_alloc | apply pw_below_drewN | apply below_drew1) | exact HB.out)⟩⟩
     ·rw [if_neg c4] at H
      exact absurd H (by simp)
    ·rw [if_neg c3] at H
     exact absurd H (by simp)
   ·rw [if_neg c2] at H
    have c2b0 : decide (x4_1 < (l0.length : Int)) = false := decide_eq_false c2
    clear c2
    obtain rfl := Option.some.inj H
    go_wp2
    repeat (go_quiet (fail); try go_wp2)
    go_ret
    exact ⟨_, by first | rfl | (simp [errW_none, errW_some] <;> rfl) | (simp [*, errW_none, errW_some] <;> rfl), by (with_reducible repeat (first | apply Kd.V_alloc | apply Kd.V_drewN | apply Kd.V_drew)); exact HO_0.out, by repeat (first | (with_reducible first | exact HB.out | apply below_alloc | apply pw_below_drewN | apply below_drew1) | exact HB.out)⟩

end Go.Proofs.Ytcblhfnjcanliaa.G
