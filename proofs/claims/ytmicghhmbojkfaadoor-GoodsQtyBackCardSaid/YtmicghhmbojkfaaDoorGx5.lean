-- PRINTED by print.py (a twelfth state) out of the translation. Not trusted: Lean checks it.
import Derived.Test.YtmicghhmbojkfaaDoorGx0
import Derived.Test.YtmicghhmbojkfaaDoorGx4
namespace Go.Proofs.YtmicghhmbojkfaaDoor.G
open Go.RowKit Go.Proofs.YtmicghhmbojkfaaDoorW.PrintWords Go.Proofs.YtmicghhmbojkfaaDoorW.PrintLast Go.Proofs.YtmicghhmbojkfaaDoorW.PrintMore
attribute [local go_sem] max2_int min2_int max_two min_two max_three min_three max_four min_four   -- for this text's walks alone
set_option linter.unusedVariables false
set_option linter.unusedSimpArgs false

/-! ### barrowlaw02_GoodsOrderTotal: function 3 -/
mutual
def barrowlaw02_GoodsOrderTotal.j0 : Nat → ByteArray → ByteArray → ByteArray → Bool → Option (Bool)
 | 0, _, _, _, _ => none
 | k + 1, x0, x1, x2, x15 => if x15 = true then (some false) else ((goods_Compare.f k x0 x1).bind fun t114 => ((goods_Compare.f k x1 x2).bind fun t115 => ((goods_Compare.f k x0 x2).bind fun t116 => ((goods_Compare.f k x1 x0).bind fun t117 => (if t114 = (wrap64 (-t117)) then ((goods_Compare.f k x2 x1).bind fun t118 => (if t115 = (wrap64 (-t118)) then ((goods_Compare.f k x2 x0).bind fun t119 => (barrowlaw02_GoodsOrderTotal.j1 k x0 x1 x2 t114 t115 t116 (t116 != (wrap64 (-t119))))) else (barrowlaw02_GoodsOrderTotal.j1 k x0 x1 x2 t114 t115 t116 true))) else (barrowlaw02_GoodsOrderTotal.j1 k x0 x1 x2 t114 t115 t116 true))))))
def barrowlaw02_GoodsOrderTotal.j1 : Nat → ByteArray → ByteArray → ByteArray → Int → Int → Int → Bool → Option (Bool)
 | 0, _, _, _, _, _, _, _ => none
 | k + 1, x0, x1, x2, x7, x8, x9, x46 => if x46 = true then (some false) else (if x7 < (-1) then (barrowlaw02_GoodsOrderTotal.j2 k x0 x1 x2 x7 x8 x9 true) else (if x7 > 1 then (barrowlaw02_GoodsOrderTotal.j2 k x0 x1 x2 x7 x8 x9 true) else (if x8 < (-1) then (barrowlaw02_GoodsOrderTotal.j2 k x0 x1 x2 x7 x8 x9 true) else (barrowlaw02_GoodsOrderTotal.j2 k x0 x1 x2 x7 x8 x9 (decide (x8 > 1))))))
def barrowlaw02_GoodsOrderTotal.j2 : Nat → ByteArray → ByteArray → ByteArray → Int → Int → Int → Bool → Option (Bool)
 | 0, _, _, _, _, _, _, _ => none
 | k + 1, x0, x1, x2, x7, x8, x9, x60 => if x60 = true then (some false) else (if ((x7 == 0) != (x0.toList == x1.toList)) = true then (barrowlaw02_GoodsOrderTotal.j3 k x7 x8 x9 true) else (if ((x8 == 0) != (x1.toList == x2.toList)) = true then (barrowlaw02_GoodsOrderTotal.j3 k x7 x8 x9 true) else (barrowlaw02_GoodsOrderTotal.j3 k x7 x8 x9 ((x9 == 0) != (x0.toList == x2.toList)))))
def barrowlaw02_GoodsOrderTotal.j3 : Nat → Int → Int → Int → Bool → Option (Bool)
 | 0, _, _, _, _ => none
 | k + 1, x7, x8, x9, x82 => if x82 = true then (some false) else (if x7 ≤ 0 then (barrowlaw02_GoodsOrderTotal.j4 k x7 x8 x9 (decide (x8 ≤ 0))) else (barrowlaw02_GoodsOrderTotal.j4 k x7 x8 x9 false))
def barrowlaw02_GoodsOrderTotal.j4 : Nat → Int → Int → Int → Bool → Option (Bool)
 | 0, _, _, _, _ => none
 | k + 1, x7, x8, x9, x88 => if x88 = true then (if x9 ≤ 0 then (if x7 = 0 then (some ((x9 == 0) == (x8 == 0))) else (some ((x9 == 0) == false))) else (some false)) else (if x7 ≥ 0 then (if x8 ≥ 0 then (if x9 ≥ 0 then (if x7 = 0 then (some ((x9 == 0) == (x8 == 0))) else (some ((x9 == 0) == false))) else (some false)) else (some true)) else (some true))
end
def barrowlaw02_GoodsOrderTotal.f (k : Nat) (a0 : ByteArray) (a1 : ByteArray) (a2 : ByteArray) : Option (Bool) := (goods_Compare.f k (⟨#[55]⟩ : ByteArray) (⟨#[65]⟩ : ByteArray)).bind fun t112 => (if t112 = (-1) then ((goods_Compare.f k (⟨#[65]⟩ : ByteArray) (⟨#[55]⟩ : ByteArray)).bind fun t113 => (barrowlaw02_GoodsOrderTotal.j0 k a0 a1 a2 (t113 != 1))) else (barrowlaw02_GoodsOrderTotal.j0 k a0 a1 a2 true))
theorem barrowlaw02_GoodsOrderTotal.mono_l : ∀ k, (∀ y0 y1 y2 y3, LeO (barrowlaw02_GoodsOrderTotal.j0 k y0 y1 y2 y3) (barrowlaw02_GoodsOrderTotal.j0 (k + 1) y0 y1 y2 y3)) ∧ (∀ y0 y1 y2 y3 y4 y5 y6, LeO (barrowlaw02_GoodsOrderTotal.j1 k y0 y1 y2 y3 y4 y5 y6) (barrowlaw02_GoodsOrderTotal.j1 (k + 1) y0 y1 y2 y3 y4 y5 y6)) ∧ (∀ y0 y1 y2 y3 y4 y5 y6, LeO (barrowlaw02_GoodsOrderTotal.j2 k y0 y1 y2 y3 y4 y5 y6) (barrowlaw02_GoodsOrderTotal.j2 (k + 1) y0 y1 y2 y3 y4 y5 y6)) ∧ (∀ y0 y1 y2 y3, LeO (barrowlaw02_GoodsOrderTotal.j3 k y0 y1 y2 y3) (barrowlaw02_GoodsOrderTotal.j3 (k + 1) y0 y1 y2 y3)) ∧ (∀ y0 y1 y2 y3, LeO (barrowlaw02_GoodsOrderTotal.j4 k y0 y1 y2 y3) (barrowlaw02_GoodsOrderTotal.j4 (k + 1) y0 y1 y2 y3))
 | 0 => ⟨fun _ _ _ _ r h => by simp [barrowlaw02_GoodsOrderTotal.j0] at h, fun _ _ _ _ _ _ _ r h => by simp [barrowlaw02_GoodsOrderTotal.j1] at h, fun _ _ _ _ _ _ _ r h => by simp [barrowlaw02_GoodsOrderTotal.j2] at h, fun _ _ _ _ r h => by simp [barrowlaw02_GoodsOrderTotal.j3] at h, fun _ _ _ _ r h => by simp [barrowlaw02_GoodsOrderTotal.j4] at h⟩
 | k + 1 => by
  obtain ⟨ih0, ih1, ih2, ih3, ih4⟩ := barrowlaw02_GoodsOrderTotal.mono_l k
  refine ⟨?_, ?_, ?_, ?_, ?_⟩
  ·intro y0 y1 y2 y3
   unfold barrowlaw02_GoodsOrderTotal.j0
   repeat' first
   | (with_reducible exact ih0 _ _ _ _)
   | (with_reducible exact ih1 _ _ _ _ _ _ _)
   | (with_reducible exact ih2 _ _ _ _ _ _ _)
   | (with_reducible exact ih3 _ _ _ _)
   | (with_reducible exact ih4 _ _ _ _)
   | (with_reducible exact goods_Compare.mono _ _ _)
   | (with_reducible exact LeO.refl _)
   | (with_reducible exact LeO.none _)
   | (with_reducible refine LeO.ite ?_ ?_)
   | (with_reducible refine LeO.bind ?_ (fun _ => ?_))
   | exact ih0 _ _ _ _
   | exact ih1 _ _ _ _ _ _ _
   | exact ih2 _ _ _ _ _ _ _
   | exact ih3 _ _ _ _
   | exact ih4 _ _ _ _
   | exact goods_Compare.mono _ _ _
   | exact LeO.none _
   | refine LeO.ite ?_ ?_
   | refine LeO.bind ?_ (fun _ => ?_)
  ·intro y0 y1 y2 y3 y4 y5 y6
   unfold barrowlaw02_GoodsOrderTotal.j1
   repeat' first
   | (with_reducible exact ih0 _ _ _ _)
   | (with_reducible exact ih1 _ _ _ _ _ _ _)
   | (with_reducible exact ih2 _ _ _ _ _ _ _)
   | (with_reducible exact ih3 _ _ _ _)
   | (with_reducible exact ih4 _ _ _ _)
   | (with_reducible exact goods_Compare.mono _ _ _)
   | (with_reducible exact LeO.refl _)
   | (with_reducible exact LeO.none _)
   | (with_reducible refine LeO.ite ?_ ?_)
   | (with_reducible refine LeO.bind ?_ (fun _ => ?_))
   | exact ih0 _ _ _ _
   | exact ih1 _ _ _ _ _ _ _
   | exact ih2 _ _ _ _ _ _ _
   | exact ih3 _ _ _ _
   | exact ih4 _ _ _ _
   | exact goods_Compare.mono _ _ _
   | exact LeO.none _
   | refine LeO.ite ?_ ?_
   | refine LeO.bind ?_ (fun _ => ?_)
  ·intro y0 y1 y2 y3 y4 y5 y6
   unfold barrowlaw02_GoodsOrderTotal.j2
   repeat' first
   | (with_reducible exact ih0 _ _ _ _)
   | (with_reducible exact ih1 _ _ _ _ _ _ _)
   | (with_reducible exact ih2 _ _ _ _ _ _ _)
   | (with_reducible exact ih3 _ _ _ _)
   | (with_reducible exact ih4 _ _ _ _)
   | (with_reducible exact goods_Compare.mono _ _ _)
   | (with_reducible exact LeO.refl _)
   | (with_reducible exact LeO.none _)
   | (with_reducible refine LeO.ite ?_ ?_)
   | (with_reducible refine LeO.bind ?_ (fun _ => ?_))
   | exact ih0 _ _ _ _
   | exact ih1 _ _ _ _ _ _ _
   | exact ih2 _ _ _ _ _ _ _
   | exact ih3 _ _ _ _
   | exact ih4 _ _ _ _
   | exact goods_Compare.mono _ _ _
   | exact LeO.none _
   | refine LeO.ite ?_ ?_
   | refine LeO.bind ?_ (fun _ => ?_)
  ·intro y0 y1 y2 y3
   unfold barrowlaw02_GoodsOrderTotal.j3
   repeat' first
   | (with_reducible exact ih0 _ _ _ _)
   | (with_reducible exact ih1 _ _ _ _ _ _ _)
   | (with_reducible exact ih2 _ _ _ _ _ _ _)
   | (with_reducible exact ih3 _ _ _ _)
   | (with_reducible exact ih4 _ _ _ _)
   | (with_reducible exact goods_Compare.mono _ _ _)
   | (with_reducible exact LeO.refl _)
   | (with_reducible exact LeO.none _)
   | (with_reducible refine LeO.ite ?_ ?_)
   | (with_reducible refine LeO.bind ?_ (fun _ => ?_))
   | exact ih0 _ _ _ _
   | exact ih1 _ _ _ _ _ _ _
   | exact ih2 _ _ _ _ _ _ _
   | exact ih3 _ _ _ _
   | exact ih4 _ _ _ _
   | exact goods_Compare.mono _ _ _
   | exact LeO.none _
   | refine LeO.ite ?_ ?_
   | refine LeO.bind ?_ (fun _ => ?_)
  ·intro y0 y1 y2 y3
   unfold barrowlaw02_GoodsOrderTotal.j4
   repeat' first
   | (with_reducible exact ih0 _ _ _ _)
   | (with_reducible exact ih1 _ _ _ _ _ _ _)
   | (with_reducible exact ih2 _ _ _ _ _ _ _)
   | (with_reducible exact ih3 _ _ _ _)
   | (with_reducible exact ih4 _ _ _ _)
   | (with_reducible exact goods_Compare.mono _ _ _)
   | (with_reducible exact LeO.refl _)
   | (with_reducible exact LeO.none _)
   | (with_reducible refine LeO.ite ?_ ?_)
   | (with_reducible refine LeO.bind ?_ (fun _ => ?_))
   | exact ih0 _ _ _ _
   | exact ih1 _ _ _ _ _ _ _
   | exact ih2 _ _ _ _ _ _ _
   | exact ih3 _ _ _ _
   | exact ih4 _ _ _ _
   | exact goods_Compare.mono _ _ _
   | exact LeO.none _
   | refine LeO.ite ?_ ?_
   | refine LeO.bind ?_ (fun _ => ?_)
theorem barrowlaw02_GoodsOrderTotal.mono : ∀ a0 a1 a2 k, LeO (barrowlaw02_GoodsOrderTotal.f k a0 a1 a2) (barrowlaw02_GoodsOrderTotal.f (k + 1) a0 a1 a2) := by
 intro a0 a1 a2 k
 obtain ⟨ih0, ih1, ih2, ih3, ih4⟩ := barrowlaw02_GoodsOrderTotal.mono_l k
 unfold barrowlaw02_GoodsOrderTotal.f
 repeat' first
   | (with_reducible exact ih0 _ _ _ _)
   | (with_reducible exact ih1 _ _ _ _ _ _ _)
   | (with_reducible exact ih2 _ _ _ _ _ _ _)
   | (with_reducible exact ih3 _ _ _ _)
   | (with_reducible exact ih4 _ _ _ _)
   | (with_reducible exact goods_Compare.mono _ _ _)
   | (with_reducible exact LeO.refl _)
   | (with_reducible exact LeO.none _)
   | (with_reducible refine LeO.ite ?_ ?_)
   | (with_reducible refine LeO.bind ?_ (fun _ => ?_))
   | exact ih0 _ _ _ _
   | exact ih1 _ _ _ _ _ _ _
   | exact ih2 _ _ _ _ _ _ _
   | exact ih3 _ _ _ _
   | exact ih4 _ _ _ _
   | exact goods_Compare.mono _ _ _
   | exact LeO.none _
   | refine LeO.ite ?_ ?_
   | refine LeO.bind ?_ (fun _ => ?_)
set_option maxHeartbeats 8000000 in
set_option maxRecDepth 100000 in
theorem barrowlaw02_GoodsOrderTotal.calls (k : Nat) (a0 : ByteArray) (a1 : ByteArray) (a2 : ByteArray) (r : Bool) (w : World) (h : barrowlaw02_GoodsOrderTotal.f k a0 a1 a2 = some r) :
  Calls Tryd.prog 3 #[.string a0, .string a1, .string a2] w fun e w' => e = .returned (.bool r) ∧ Below w.heap.size w w' := by
 have HB := Aside0.mk (Below.refl w.heap.size w)
 have H : ((goods_Compare.f k (⟨#[55]⟩ : ByteArray) (⟨#[65]⟩ : ByteArray)).bind fun t112 => (if t112 = (-1) then ((goods_Compare.f k (⟨#[65]⟩ : ByteArray) (⟨#[55]⟩ : ByteArray)).bind fun t113 => (barrowlaw02_GoodsOrderTotal.j0 k a0 a1 a2 (t113 != 1))) else (barrowlaw02_GoodsOrderTotal.j0 k a0 a1 a2 true))) = some r := h
 clear h
 have HC4 := Aside0.mk H
 clear H
 go_enter Tryd.func3, Tryd.ntmps3
 go_upto_region 1 with (fail)
 go_cut [15] (fun v15 wc => ∃ (kq : Nat) (x15_3 : Bool), v15 = .bool x15_3 ∧ Aside0 (barrowlaw02_GoodsOrderTotal.j0 kq a0 a1 a2 x15_3 = some r) ∧ Aside0 (kq ≤ k) ∧ Aside0 (Below w.heap.size w wc))
 case first =>
  have H := HC4.out
  clear HC4
  replace H := Option.bind_eq_some_iff.mp H
  obtain ⟨t112, A50, H⟩ := H
  replace H : (if t112 = (-1) then ((goods_Compare.f k (⟨#[65]⟩ : ByteArray) (⟨#[55]⟩ : ByteArray)).bind fun t113 => (barrowlaw02_GoodsOrderTotal.j0 k a0 a1 a2 (t113 != 1))) else (barrowlaw02_GoodsOrderTotal.j0 k a0 a1 a2 true)) = some r := H
  have A5 := Aside0.mk A50
  clear A50
  by_cases c6 : t112 = (-1)
  ·rw [if_pos c6] at H
   have c6b0 : (t112 == (-1)) = true := beq_iff_eq.mpr c6
   have c6b1 : (t112 != (-1)) = false := bne_eq_false_iff_eq.mpr c6
   clear c6
   (first | rw [c6b0] | (simp only [i64_w, i32_w]; rw [c6b0]) | skip)
   replace H := Option.bind_eq_some_iff.mp H
   obtain ⟨t113, A70, H⟩ := H
   replace H : (barrowlaw02_GoodsOrderTotal.j0 k a0 a1 a2 (t113 != 1)) = some r := H
   have A7 := Aside0.mk A70
   clear A70
   have H' := Aside0.mk H
   clear H
   go_wp2_with (first | ((with_reducible refine gate_callee (f := 8) rfl ?_); refine goesL_ (some 10) rfl rfl Tryd.func8 (by kernel_rfl) rfl #[.string (⟨#[55]⟩ : ByteArray), .string (⟨#[65]⟩ : ByteArray)] rfl (by (try simp only [List.map_toArray, List.map_cons, List.map_nil]); first | done | rfl | (simp only [List.length_drop, List.length_take]; rfl)) ?_; (with_reducible refine (goods_Compare.calls k (⟨#[55]⟩ : ByteArray) (⟨#[65]⟩ : ByteArray) t112 _ A5.out).mono ?_); rintro e w8 ⟨rfl, hb⟩; refine ⟨_, rfl, ?_⟩; have n0_ := Aside0.mk (below_step (by repeat (first | (with_reducible first | exact HB.out | apply below_alloc | apply pw_below_drewN | apply below_drew1) | exact HB.out)) hb); clear HB; have HB := n0_; clear n0_; (try clear hb); (try clear hb2); (try clear hk); (try clear hi)) | (go_at_call 8; (with_reducible refine (goods_Compare.calls k (⟨#[65]⟩ : ByteArray) (⟨#[55]⟩ : ByteArray) t113 _ A7.out).mono ?_); rintro e w9 ⟨rfl, hb⟩; have n0_ := Aside0.mk (below_step (by repeat (first | (with_reducible first | exact HB.out | apply below_alloc | apply pw_below_drewN | apply below_drew1) | exact HB.out)) hb); clear HB; have HB := n0_; clear n0_; (try clear hb); (try clear hb2); (try clear hk); (try clear hi)))
   go_meet
   case rel => exact ⟨_, ((t113 != 1)), (by first | rfl | (simp; done) | (simp [*]; done)), H', ⟨by first | omega | exact Nat.le_refl _⟩, ⟨by repeat (first | (with_reducible first | exact HB.out | apply below_alloc | apply pw_below_drewN | apply below_drew1) | exact HB.out)⟩⟩
  ·rw [if_neg c6] at H
   have c6b0 : (t112 == (-1)) = false := beq_eq_false_iff_ne.mpr c6
   have c6b1 : (t112 != (-1)) = true := bne_iff_ne.mpr c6
   (first | rw [c6b0] | (simp only [i64_w, i32_w]; rw [c6b0]) | skip)
   have H' := Aside0.mk H
   clear H
   go_wp2_with (first | ((with_reducible refine gate_callee (f := 8) rfl ?_); refine goesL_ (some 10) rfl rfl Tryd.func8 (by kernel_rfl) rfl #[.string (⟨#[55]⟩ : ByteArray), .string (⟨#[65]⟩ : ByteArray)] rfl (by (try simp only [List.map_toArray, List.map_cons, List.map_nil]); first | done | rfl | (simp only [List.length_drop, List.length_take]; rfl)) ?_; (with_reducible refine (goods_Compare.calls k (⟨#[55]⟩ : ByteArray) (⟨#[65]⟩ : ByteArray) t112 _ A5.out).mono ?_); rintro e w10 ⟨rfl, hb⟩; refine ⟨_, rfl, ?_⟩; have n0_ := Aside0.mk (below_step (by repeat (first | (with_reducible first | exact HB.out | apply below_alloc | apply pw_below_drewN | apply below_drew1) | exact HB.out)) hb); clear HB; have HB := n0_; clear n0_; (try clear hb); (try clear hb2); (try clear hk); (try clear hi)))
   go_meet
   case rel => exact ⟨_, (true), (by first | rfl | (simp; done) | (simp [*]; done)), H', ⟨by first | omega | exact Nat.le_refl _⟩, ⟨by repeat (first | (with_reducible first | exact HB.out | apply below_alloc | apply pw_below_drewN | apply below_drew1) | exact HB.out)⟩⟩
 case rest =>
  clear HC4
  try clear p2
  try clear c3
  try clear c6
  try clear c6b0
  try clear c6b1
  try clear c8
  obtain ⟨kq, x15_3, rfl, HA, HJ3, HB⟩ := hcut
  cases kq with
  | zero => exact absurd HA.out (by simp [barrowlaw02_GoodsOrderTotal.j0])
  | succ kj3 =>
   have H := HA.out
   clear HA
   simp only [barrowlaw02_GoodsOrderTotal.j0] at H
   by_cases c11 : x15_3 = true
   ·subst c11
    have H1 : (some false) = some r := by rw [if_pos rfl] at H; exact H
    clear H
    have H := H1
    clear H1
    obtain rfl := Option.some.inj H
    go_wp2
    go_ret
    exact ⟨by first | rfl | (simp [errW_none, errW_some] <;> rfl) | (simp [*, errW_none, errW_some] <;> rfl), by repeat (first | (with_reducible first | exact HB.out | apply below_alloc | apply pw_below_drewN | apply below_drew1) | exact HB.out)⟩
   ·replace c11 := Bool.eq_false_iff.mpr c11
    subst c11
    have H1 : ((goods_Compare.f kj3 a0 a1).bind fun t114 => ((goods_Compare.f kj3 a1 a2).bind fun t115 => ((goods_Compare.f kj3 a0 a2).bind fun t116 => ((goods_Compare.f kj3 a1 a0).bind fun t117 => (if t114 = (wrap64 (-t117)) then ((goods_Compare.f kj3 a2 a1).bind fun t118 => (if t115 = (wrap64 (-t118)) then ((goods_Compare.f kj3 a2 a0).bind fun t119 => (barrowlaw02_GoodsOrderTotal.j1 kj3 a0 a1 a2 t114 t115 t116 (t116 != (wrap64 (-t119))))) else (barrowlaw02_GoodsOrderTotal.j1 kj3 a0 a1 a2 t114 t115 t116 true))) else (barrowlaw02_GoodsOrderTotal.j1 kj3 a0 a1 a2 t114 t115 t116 true)))))) = some r := by rw [if_neg (show ¬ (false = true) by decide)] at H; exact H
    clear H
    have H := H1
    clear H1
    replace H := Option.bind_eq_some_iff.mp H
    obtain ⟨t114, A120, H⟩ := H
    replace H : ((goods_Compare.f kj3 a1 a2).bind fun t115 => ((goods_Compare.f kj3 a0 a2).bind fun t116 => ((goods_Compare.f kj3 a1 a0).bind fun t117 => (if t114 = (wrap64 (-t117)) then ((goods_Compare.f kj3 a2 a1).bind fun t118 => (if t115 = (wrap64 (-t118)) then ((goods_Compare.f kj3 a2 a0).bind fun t119 => (barrowlaw02_GoodsOrderTotal.j1 kj3 a0 a1 a2 t114 t115 t116 (t116 != (wrap64 (-t119))))) else (barrowlaw02_GoodsOrderTotal.j1 kj3 a0 a1 a2 t114 t115 t116 true))) else (barrowlaw02_GoodsOrderTotal.j1 kj3 a0 a1 a2 t114 t115 t116 true))))) = some r := H
    have A12 := Aside0.mk A120
    clear A120
    replace H := Option.bind_eq_some_iff.mp H
    obtain ⟨t115, A130, H⟩ := H
    replace H : ((goods_Compare.f kj3 a0 a2).bind fun t116 => ((goods_Compare.f kj3 a1 a0).bind fun t117 => (if t114 = (wrap64 (-t117)) then ((goods_Compare.f kj3 a2 a1).bind fun t118 => (if t115 = (wrap64 (-t118)) then ((goods_Compare.f kj3 a2 a0).bind fun t119 => (barrowlaw02_GoodsOrderTotal.j1 kj3 a0 a1 a2 t114 t115 t116 (t116 != (wrap64 (-t119))))) else (barrowlaw02_GoodsOrderTotal.j1 kj3 a0 a1 a2 t114 t115 t116 true))) else (barrowlaw02_GoodsOrderTotal.j1 kj3 a0 a1 a2 t114 t115 t116 true)))) = some r := H
    have A13 := Aside0.mk A130
    clear A130
    replace H := Option.bind_eq_some_iff.mp H
    obtain ⟨t116, A140, H⟩ := H
    replace H : ((goods_Compare.f kj3 a1 a0).bind fun t117 => (if t114 = (wrap64 (-t117)) then ((goods_Compare.f kj3 a2 a1).bind fun t118 => (if t115 = (wrap64 (-t118)) then ((goods_Compare.f kj3 a2 a0).bind fun t119 => (barrowlaw02_GoodsOrderTotal.j1 kj3 a0 a1 a2 t114 t115 t116 (t116 != (wrap64 (-t119))))) else (barrowlaw02_GoodsOrderTotal.j1 kj3 a0 a1 a2 t114 t115 t116 true))) else (barrowlaw02_GoodsOrderTotal.j1 kj3 a0 a1 a2 t114 t115 t116 true))) = some r := H
    have A14 := Aside0.mk A140
    clear A140
    have HC15 := Aside0.mk H
    clear H
    go_upto_region 6 with (first | ((with_reducible refine gate_callee (f := 8) rfl ?_); refine goesL_ (some 18) rfl rfl Tryd.func8 (by kernel_rfl) rfl #[.string a0, .string a1] rfl (by (try simp only [List.map_toArray, List.map_cons, List.map_nil]); first | done | rfl | (simp only [List.length_drop, List.length_take]; rfl)) ?_; (with_reducible refine (goods_Compare.calls kj3 a0 a1 t114 _ A12.out).mono ?_); rintro e w16 ⟨rfl, hb⟩; refine ⟨_, rfl, ?_⟩; have n0_ := Aside0.mk (below_step (by repeat (first | (with_reducible first | exact HB.out | apply below_alloc | apply pw_below_drewN | apply below_drew1) | exact HB.out)) hb); clear HB; have HB := n0_; clear n0_; (try clear hb); (try clear hb2); (try clear hk); (try clear hi)) | ((with_reducible refine gate_callee (f := 8) rfl ?_); refine goesL_ (some 21) rfl rfl Tryd.func8 (by kernel_rfl) rfl #[.string a1, .string a2] rfl (by (try simp only [List.map_toArray, List.map_cons, List.map_nil]); first | done | rfl | (simp only [List.length_drop, List.length_take]; rfl)) ?_; (with_reducible refine (goods_Compare.calls kj3 a1 a2 t115 _ A13.out).mono ?_); rintro e w17 ⟨rfl, hb⟩; refine ⟨_, rfl, ?_⟩; have n0_ := Aside0.mk (below_step (by repeat (first | (with_reducible first | exact HB.out | apply below_alloc | apply pw_below_drewN | apply below_drew1) | exact HB.out)) hb); clear HB; have HB := n0_; clear n0_; (try clear hb); (try clear hb2); (try clear hk); (try clear hi)) | ((with_reducible refine gate_callee (f := 8) rfl ?_); refine goesL_ (some 24) rfl rfl Tryd.func8 (by kernel_rfl) rfl #[.string a0, .string a2] rfl (by (try simp only [List.map_toArray, List.map_cons, List.map_nil]); first | done | rfl | (simp only [List.length_drop, List.length_take]; rfl)) ?_; (with_reducible refine (goods_Compare.calls kj3 a0 a2 t116 _ A14.out).mono ?_); rintro e w18 ⟨rfl, hb⟩; refine ⟨_, rfl, ?_⟩; have n0_ := Aside0.mk (below_step (by repeat (first | (with_reducible first | exact HB.out | apply below_alloc | apply pw_below_drewN | apply below_drew1) | exact HB.out)) hb); clear HB; have HB := n0_; clear n0_; (try clear hb); (try clear hb2); (try clear hk); (try clear hi)))
    (try simp only [Act.put, List.setIfInBounds_toArray, List.set_cons_zero, List.set_cons_succ])
    go_cut [46] (fun v46 wc => ∃ (kq : Nat) (x46_14 : Bool), v46 = .bool x46_14 ∧ Aside0 (barrowlaw02_GoodsOrderTotal.j1 kq a0 a1 a2 t114 t115 t116 x46_14 = some r) ∧ Aside0 (kq ≤ kj3) ∧ Aside0 (Below w.heap.size w wc))
    case first =>
     have H := HC15.out
     clear HC15
     replace H := Option.bind_eq_some_iff.mp H
     obtain ⟨t117, A190, H⟩ := H
     replace H : (if t114 = (wrap64 (-t117)) then ((goods_Compare.f kj3 a2 a1).bind fun t118 => (if t115 = (wrap64 (-t118)) then ((goods_Compare.f kj3 a2 a0).bind fun t119 => (barrowlaw02_GoodsOrderTotal.j1 kj3 a0 a1 a2 t114 t115 t116 (t116 != (wrap64 (-t119))))) else (barrowlaw02_GoodsOrderTotal.j1 kj3 a0 a1 a2 t114 t115 t116 true))) else (barrowlaw02_GoodsOrderTotal.j1 kj3 a0 a1 a2 t114 t115 t116 true)) = some r := H
     have A19 := Aside0.mk A190
     clear A190
     by_cases c20 : t114 = (wrap64 (-t117))
     ·rw [if_pos c20] at H
      have c20b0 : (t114 == (wrap64 (-t117))) = true := beq_iff_eq.mpr c20
      have c20b1 : (t114 != (wrap64 (-t117))) = false := bne_eq_false_iff_eq.mpr c20
      clear c20
      (first | rw [c20b0] | (simp only [i64_w, i32_w]; rw [c20b0]) | skip)
      replace H := Option.bind_eq_some_iff.mp H
      obtain ⟨t118, A210, H⟩ := H
      replace H : (if t115 = (wrap64 (-t118)) then ((goods_Compare.f kj3 a2 a0).bind fun t119 => (barrowlaw02_GoodsOrderTotal.j1 kj3 a0 a1 a2 t114 t115 t116 (t116 != (wrap64 (-t119))))) else (barrowlaw02_GoodsOrderTotal.j1 kj3 a0 a1 a2 t114 t115 t116 true)) = some r := H
      have A21 := Aside0.mk A210
      clear A210
      by_cases c22 : t115 = (wrap64 (-t118))
      ·rw [if_pos c22] at H
       have c22b0 : (t115 == (wrap64 (-t118))) = true := beq_iff_eq.mpr c22
       have c22b1 : (t115 != (wrap64 (-t118))) = false := bne_eq_false_iff_eq.mpr c22
       clear c22
       replace H := Option.bind_eq_some_iff.mp H
       obtain ⟨t119, A230, H⟩ := H
       replace H : (barrowlaw02_GoodsOrderTotal.j1 kj3 a0 a1 a2 t114 t115 t116 (t116 != (wrap64 (-t119)))) = some r := H
       have A23 := Aside0.mk A230
       clear A230
       have H' := Aside0.mk H
       clear H
       go_wp2_with (first | ((with_reducible refine gate_callee (f := 8) rfl ?_); refine goesL_ (some 28) rfl rfl Tryd.func8 (by kernel_rfl) rfl #[.string a1, .string a0] rfl (by (try simp only [List.map_toArray, List.map_cons, List.map_nil]); first | done | rfl | (simp only [List.length_drop, List.length_take]; rfl)) ?_; (with_reducible refine (goods_Compare.calls kj3 a1 a0 t117 _ A19.out).mono ?_); rintro e w24 ⟨rfl, hb⟩; refine ⟨_, rfl, ?_⟩; have n0_ := Aside0.mk (below_step (by repeat (first | (with_reducible first | exact HB.out | apply below_alloc | apply pw_below_drewN | apply below_drew1) | exact HB.out)) hb); clear HB; have HB := n0_; clear n0_; (try clear hb); (try clear hb2); (try clear hk); (try clear hi)) | (go_at_call 8; (with_reducible refine (goods_Compare.calls kj3 a2 a1 t118 _ A21.out).mono ?_); rintro e w25 ⟨rfl, hb⟩; have n0_ := Aside0.mk (below_step (by repeat (first | (with_reducible first | exact HB.out | apply below_alloc | apply pw_below_drewN | apply below_drew1) | exact HB.out)) hb); clear HB; have HB := n0_; clear n0_; (try clear hb); (try clear hb2); (try clear hk); (try clear hi)) | (go_at_call 8; (with_reducible refine (goods_Compare.calls kj3 a2 a0 t119 _ A23.out).mono ?_); rintro e w26 ⟨rfl, hb⟩; have n0_ := Aside0.mk (below_step (by repeat (first | (with_reducible first | exact HB.out | apply below_alloc | apply pw_below_drewN | apply below_drew1) | exact HB.out)) hb); clear HB; have HB := n0_; clear n0_; (try clear hb); (try clear hb2); (try clear hk); (try clear hi)))
       go_meet
       case rel => exact ⟨_, ((t116 != (wrap64 (-t119)))), (by first | rfl | (simp; done) | (simp [*]; done)), H', ⟨by have := HJ3.out; first | omega | exact Nat.le_refl _⟩, ⟨by repeat (first | (with_reducible first | exact HB.out | apply below_alloc | apply pw_below_drewN | apply below_drew1) | exact HB.out)⟩⟩
      ·rw [if_neg c22] at H
       have c22b0 : (t115 == (wrap64 (-t118))) = false := beq_eq_false_iff_ne.mpr c22
       have c22b1 : (t115 != (wrap64 (-t118))) = true := bne_iff_ne.mpr c22
       have H' := Aside0.mk H
       clear H
       go_wp2_with (first | ((with_reducible refine gate_callee (f := 8) rfl ?_); refine goesL_ (some 28) rfl rfl Tryd.func8 (by kernel_rfl) rfl #[.string a1, .string a0] rfl (by (try simp only [List.map_toArray, List.map_cons, List.map_nil]); first | done | rfl | (simp only [List.length_drop, List.length_take]; rfl)) ?_; (with_reducible refine (goods_Compare.calls kj3 a1 a0 t117 _ A19.out).mono ?_); rintro e w27 ⟨rfl, hb⟩; refine ⟨_, rfl, ?_⟩; have n0_ := Aside0.mk (below_step (by repeat (first | (with_reducible first | exact HB.out | apply below_alloc | apply pw_below_drewN | apply below_drew1) | exact HB.out)) hb); clear HB; have HB := n0_; clear n0_; (try clear hb); (try clear hb2); (try clear hk); (try clear hi)) | (go_at_call 8; (with_reducible refine (goods_Compare.calls kj3 a2 a1 t118 _ A21.out).mono ?_); rintro e w28 ⟨rfl, hb⟩; have n0_ := Aside0.mk (below_step (by repeat (first | (with_reducible first | exact HB.out | apply below_alloc | apply pw_below_drewN | apply below_drew1) | exact HB.out)) hb); clear HB; have HB := n0_; clear n0_; (try clear hb); (try clear hb2); (try clear hk); (try clear hi)))
       go_meet
       case rel => exact ⟨_, (true), (by first | rfl | (simp; done) | (simp [*]; done)), H', ⟨by have := HJ3.out; first | omega | exact Nat.le_refl _⟩, ⟨by repeat (first | (with_reducible first | exact HB.out | apply below_alloc | apply pw_below_drewN | apply below_drew1) | exact HB.out)⟩⟩
     ·rw [if_neg c20] at H
      have c20b0 : (t114 == (wrap64 (-t117))) = false := beq_eq_false_iff_ne.mpr c20
      have c20b1 : (t114 != (wrap64 (-t117))) = true := bne_iff_ne.mpr c20
      (first | rw [c20b0] | (simp only [i64_w, i32_w]; rw [c20b0]) | skip)
      have H' := Aside0.mk H
      clear H
      go_wp2_with (first | ((with_reducible refine gate_callee (f := 8) rfl ?_); refine goesL_ (some 28) rfl rfl Tryd.func8 (by kernel_rfl) rfl #[.string a1, .string a0] rfl (by (try simp only [List.map_toArray, List.map_cons, List.map_nil]); first | done | rfl | (simp only [List.length_drop, List.length_take]; rfl)) ?_; (with_reducible refine (goods_Compare.calls kj3 a1 a0 t117 _ A19.out).mono ?_); rintro e w29 ⟨rfl, hb⟩; refine ⟨_, rfl, ?_⟩; have n0_ := Aside0.mk (below_step (by repeat (first | (with_reducible first | exact HB.out | apply below_alloc | apply pw_below_drewN | apply below_drew1) | exact HB.out)) hb); clear HB; have HB := n0_; clear n0_; (try clear hb); (try clear hb2); (try clear hk); (try clear hi)))
      go_meet
      case rel => exact ⟨_, (true), (by first | rfl | (simp; done) | (simp [*]; done)), H', ⟨by have := HJ3.out; first | omega | exact Nat.le_refl _⟩, ⟨by repeat (first | (with_reducible first | exact HB.out | apply below_alloc | apply pw_below_drewN | apply below_drew1) | exact HB.out)⟩⟩
    case rest =>
     clear HC15
     try clear c1
     try clear c2
     try clear p2
     try clear c3
     try clear c6
     try clear c6b0
     try clear c6b1
     try clear p6
     try clear c8
     try clear c11
     try clear c20
     try clear c20b0
     try clear c20b1
     try clear c22
     try clear c22b0
     try clear c22b1
     try clear p2
     obtain ⟨kq, x46_14, rfl, HA, HJ14, HB⟩ := hcut
     cases kq with
     | zero => exact absurd HA.out (by simp [barrowlaw02_GoodsOrderTotal.j1])
     | succ kj14 =>
      have H := HA.out
      clear HA
      simp only [barrowlaw02_GoodsOrderTotal.j1] at H
      by_cases c30 : x46_14 = true
      ·subst c30
       have H1 : (some false) = some r := by rw [if_pos rfl] at H; exact H
       clear H
       have H := H1
       clear H1
       obtain rfl := Option.some.inj H
       go_wp2
       go_ret
       exact ⟨by first | rfl | (simp [errW_none, errW_some] <;> rfl) | (simp [*, errW_none, errW_some] <;> rfl), by repeat (first | (with_reducible first | exact HB.out | apply below_alloc | apply pw_below_drewN | apply below_drew1) | exact HB.out)⟩
      ·replace c30 := Bool.eq_false_iff.mpr c30
       subst c30
       have H1 : (if t114 < (-1) then (barrowlaw02_GoodsOrderTotal.j2 kj14 a0 a1 a2 t114 t115 t116 true) else (if t114 > 1 then (barrowlaw02_GoodsOrderTotal.j2 kj14 a0 a1 a2 t114 t115 t116 true) else (if t115 < (-1) then (barrowlaw02_GoodsOrderTotal.j2 kj14 a0 a1 a2 t114 t115 t116 true) else (barrowlaw02_GoodsOrderTotal.j2 kj14 a0 a1 a2 t114 t115 t116 (decide (t115 > 1)))))) = some r := by rw [if_neg (show ¬ (false = true) by decide)] at H; exact H
       clear H
       have H := H1
       clear H1
       have HC31 := Aside0.mk H
       clear H
       go_upto_region 8 with (fail)
       go_cut [60] (fun v60 wc => ∃ (kq : Nat) (x60_30 : Bool), v60 = .bool x60_30 ∧ Aside0 (barrowlaw02_GoodsOrderTotal.j2 kq a0 a1 a2 t114 t115 t116 x60_30 = some r) ∧ Aside0 (kq ≤ kj14) ∧ Aside0 (Below w.heap.size w wc))
       case first =>
        have H := HC31.out
        clear HC31
        by_cases c32 : t114 < (-1)
        ·rw [if_pos c32] at H
         have c32b0 : decide (t114 < (-1)) = true := decide_eq_true c32
         clear c32
         (first | rw [c32b0] | (simp only [i64_w, i32_w]; rw [c32b0]) | skip)
         have H' := Aside0.mk H
         clear H
         go_wp2
         go_meet
         case rel => exact ⟨_, (true), (by first | rfl | (simp; done) | (simp [*]; done)), H', ⟨by have := HJ3.out; have := HJ14.out; first | omega | exact Nat.le_refl _⟩, ⟨by repeat (first | (with_reducible first | exact HB.out | apply below_alloc | apply pw_below_drewN | apply below_drew1) | exact HB.out)⟩⟩
        ·rw [if_neg c32] at H
         have c32b0 : decide (t114 < (-1)) = false := decide_eq_false c32
         clear c32
         (first | rw [c32b0] | (simp only [i64_w, i32_w]; rw [c32b0]) | skip)
         by_cases c33 : t114 > 1
         ·rw [if_pos c33] at H
          have c33b0 : decide (1 < t114) = true := decide_eq_true c33
          clear c33
          have H' := Aside0.mk H
          clear H
          go_wp2
          go_meet
          case rel => exact ⟨_, (true), (by first | rfl | (simp; done) | (simp [*]; done)), H', ⟨by have := HJ3.out; have := HJ14.out; first | omega | exact Nat.le_refl _⟩, ⟨by repeat (first | (with_reducible first | exact HB.out | apply below_alloc | apply pw_below_drewN | apply below_drew1) | exact HB.out)⟩⟩
         ·rw [if_neg c33] at H
          have c33b0 : decide (1 < t114) = false := decide_eq_false c33
          clear c33
          by_cases c34 : t115 < (-1)
          ·rw [if_pos c34] at H
           have c34b0 : decide (t115 < (-1)) = true := decide_eq_true c34
           clear c34
           have H' := Aside0.mk H
           clear H
           go_wp2
           go_meet
           case rel => exact ⟨_, (true), (by first | rfl | (simp; done) | (simp [*]; done)), H', ⟨by have := HJ3.out; have := HJ14.out; first | omega | exact Nat.le_refl _⟩, ⟨by repeat (first | (with_reducible first | exact HB.out | apply below_alloc | apply pw_below_drewN | apply below_drew1) | exact HB.out)⟩⟩
          ·rw [if_neg c34] at H
           have c34b0 : decide (t115 < (-1)) = false := decide_eq_false c34
           clear c34
           have H' := Aside0.mk H
           clear H
           go_wp2
           go_meet
           case rel => exact ⟨_, (decide (t115 > 1)), (by first | rfl | (simp; done) | (simp [*]; done)), H', ⟨by have := HJ3.out; have := HJ14.out; first | omega | exact Nat.le_refl _⟩, ⟨by repeat (first | (with_reducible first | exact HB.out | apply below_alloc | apply pw_below_drewN | apply below_drew1) | exact HB.out)⟩⟩
       case rest =>
        clear HC31
        try clear c1
        try clear c2
        try clear p2
        try clear c3
        try clear c6
        try clear c6b0
        try clear c6b1
        try clear p6
        try clear c8
        try clear c11
        try clear c20
        try clear c20b0
        try clear c20b1
        try clear c22
        try clear c22b0
        try clear c22b1
        try clear c30
        try clear c32
        try clear c32b0
        try clear c33
        try clear c33b0
        try clear c34
        try clear c34b0
        try clear p2
        try clear p6
        obtain ⟨kq, x60_30, rfl, HA, HJ30, HB⟩ := hcut
        cases kq with
        | zero => exact absurd HA.out (by simp [barrowlaw02_GoodsOrderTotal.j2])
        | succ kj30 =>
         have H := HA.out
         clear HA
         simp only [barrowlaw02_GoodsOrderTotal.j2] at H
         by_cases c35 : x60_30 = true
         ·subst c35
          have H1 : (some false) = some r := by rw [if_pos rfl] at H; exact H
          clear H
          have H := H1
          clear H1
          obtain rfl := Option.some.inj H
          go_wp2
          go_ret
          exact ⟨by first | rfl | (simp [errW_none, errW_some] <;> rfl) | (simp [*, errW_none, errW_some] <;> rfl), by repeat (first | (with_reducible first | exact HB.out | apply below_alloc | apply pw_below_drewN | apply below_drew1) | exact HB.out)⟩
         ·replace c35 := Bool.eq_false_iff.mpr c35
          subst c35
          have H1 : (if ((t114 == 0) != (a0.toList == a1.toList)) = true then (barrowlaw02_GoodsOrderTotal.j3 kj30 t114 t115 t116 true) else (if ((t115 == 0) != (a1.toList == a2.toList)) = true then (barrowlaw02_GoodsOrderTotal.j3 kj30 t114 t115 t116 true) else (barrowlaw02_GoodsOrderTotal.j3 kj30 t114 t115 t116 ((t116 == 0) != (a0.toList == a2.toList))))) = some r := by rw [if_neg (show ¬ (false = true) by decide)] at H; exact H
          clear H
          have H := H1
          clear H1
          have HC36 := Aside0.mk H
          clear H
          go_upto_region 10 with (fail)
          go_cut [82] (fun v82 wc => ∃ (kq : Nat) (x82_35 : Bool), v82 = .bool x82_35 ∧ Aside0 (barrowlaw02_GoodsOrderTotal.j3 kq t114 t115 t116 x82_35 = some r) ∧ Aside0 (kq ≤ kj30) ∧ Aside0 (Below w.heap.size w wc))
          case first =>
           have H := HC36.out
           clear HC36
           by_cases c37 : ((t114 == 0) != (a0.toList == a1.toList)) = true
           ·rw [if_pos c37] at H
            have c37b0 : ((t114 == 0) != (a0.toList == a1.toList)) = true := c37
            (try (have c37b1 : decide ((t114 == 0) = (a0.toList == a1.toList)) = false := by simpa using c37))
            (try (have c37b2 : ((t114 == 0) == (a0.toList == a1.toList)) = false := by simpa using c37))
            (try (have c37b3 : ¬ ((t114 == 0) = (a0.toList == a1.toList)) := by simpa using c37))
            clear c37
            (first | rw [c37b0] | (simp only [i64_w, i32_w]; rw [c37b0]) | skip)
            have H' := Aside0.mk H
            clear H
            go_wp2
            go_meet
            case rel => exact ⟨_, (true), (by first | rfl | (simp; done) | (simp [*]; done)), H', ⟨by have := HJ3.out; have := HJ14.out; have := HJ30.out; first | omega | exact Nat.le_refl _⟩, ⟨by repeat (first | (with_reducible first | exact HB.out | apply below_alloc | apply pw_below_drewN | apply below_drew1) | exact HB.out)⟩⟩
           ·rw [if_neg c37] at H
            have c37b0 : ((t114 == 0) != (a0.toList == a1.toList)) = false := by simpa using c37
            (try (have c37b1 : decide ((t114 == 0) = (a0.toList == a1.toList)) = true := by simpa using c37))
            (try (have c37b2 : ((t114 == 0) == (a0.toList == a1.toList)) = true := by simpa using c37))
            clear c37
            (first | rw [c37b0] | (simp only [i64_w, i32_w]; rw [c37b0]) | skip)
            by_cases c38 : ((t115 == 0) != (a1.toList == a2.toList)) = true
            ·rw [if_pos c38] at H
             have c38b0 : ((t115 == 0) != (a1.toList == a2.toList)) = true := c38
             (try (have c38b1 : decide ((t115 == 0) = (a1.toList == a2.toList)) = false := by simpa using c38))
             (try (have c38b2 : ((t115 == 0) == (a1.toList == a2.toList)) = false := by simpa using c38))
             (try (have c38b3 : ¬ ((t115 == 0) = (a1.toList == a2.toList)) := by simpa using c38))
             clear c38
             have H' := Aside0.mk H
             clear H
             go_wp2
             go_meet
             case rel => exact ⟨_, (true), (by first | rfl | (simp; done) | (simp [*]; done)), H', ⟨by have := HJ3.out; have := HJ14.out; have := HJ30.out; first | omega | exact Nat.le_refl _⟩, ⟨by repeat (first | (with_reducible first | exact HB.out | apply below_alloc | apply pw_below_drewN | apply below_drew1) | exact HB.out)⟩⟩
            ·rw [if_neg c38] at H
             have c38b0 : ((t115 == 0) != (a1.toList == a2.toList)) = false := by simpa using c38
             (try (have c38b1 : decide ((t115 == 0) = (a1.toList == a2.toList)) = true := by simpa using c38))
             (try (have c38b2 : ((t115 == 0) == (a1.toList == a2.toList)) = true := by simpa using c38))
             clear c38
             have H' := Aside0.mk H
             clear H
             go_wp2
             go_meet
             case rel => exact ⟨_, (((t116 == 0) != (a0.toList == a2.toList))), (by first | rfl | (simp; done) | (simp [*]; done)), H', ⟨by have := HJ3.out; have := HJ14.out; have := HJ30.out; first | omega | exact Nat.le_refl _⟩, ⟨by repeat (first | (with_reducible first | exact HB.out | apply below_alloc | apply pw_below_drewN | apply below_drew1) | exact HB.out)⟩⟩
          case rest =>
           clear HC36
           try clear c1
           try clear c2
           try clear p2
           try clear c3
           try clear c6
           try clear c6b0
           try clear c6b1
           try clear p6
           try clear c8
           try clear c11
           try clear c20
           try clear c20b0
           try clear c20b1
           try clear c22
           try clear c22b0
           try clear c22b1
           try clear c30
           try clear c32
           try clear c32b0
           try clear c33
           try clear c33b0
           try clear c34
           try clear c34b0
           try clear c35
           try clear c37
           try clear c37b0
           try clear c37b1
           try clear c37b2
           try clear c38
           try clear c38b0
           try clear c38b1
           try clear c38b2
           try clear p2
           try clear p6
           obtain ⟨kq, x82_35, rfl, HA, HJ35, HB⟩ := hcut
           cases kq with
           | zero => exact absurd HA.out (by simp [barrowlaw02_GoodsOrderTotal.j3])
           | succ kj35 =>
            have H := HA.out
            clear HA
            simp only [barrowlaw02_GoodsOrderTotal.j3] at H
            by_cases c39 : x82_35 = true
            ·subst c39
             have H1 : (some false) = some r := by rw [if_pos rfl] at H; exact H
             clear H
             have H := H1
             clear H1
             obtain rfl := Option.some.inj H
             go_wp2
             go_ret
             exact ⟨by first | rfl | (simp [errW_none, errW_some] <;> rfl) | (simp [*, errW_none, errW_some] <;> rfl), by repeat (first | (with_reducible first | exact HB.out | apply below_alloc | apply pw_below_drewN | apply below_drew1) | exact HB.out)⟩
            ·replace c39 := Bool.eq_false_iff.mpr c39
             subst c39
             have H1 : (if t114 ≤ 0 then (barrowlaw02_GoodsOrderTotal.j4 kj35 t114 t115 t116 (decide (t115 ≤ 0))) else (barrowlaw02_GoodsOrderTotal.j4 kj35 t114 t115 t116 false)) = some r := by rw [if_neg (show ¬ (false = true) by decide)] at H; exact H
             clear H
             have H := H1
             clear H1
             have HC40 := Aside0.mk H
             clear H
             go_upto_region 12 with (fail)
             go_cut [88] (fun v88 wc => ∃ (kq : Nat) (x88_39 : Bool), v88 = .bool x88_39 ∧ Aside0 (barrowlaw02_GoodsOrderTotal.j4 kq t114 t115 t116 x88_39 = some r) ∧ Aside0 (kq ≤ kj35) ∧ Aside0 (Below w.heap.size w wc))
             case first =>
              have H := HC40.out
              clear HC40
              by_cases c41 : t114 ≤ 0
              ·rw [if_pos c41] at H
               have c41b0 : decide (t114 ≤ 0) = true := decide_eq_true c41
               clear c41
               (first | rw [c41b0] | (simp only [i64_w, i32_w]; rw [c41b0]) | skip)
               have H' := Aside0.mk H
               clear H
               go_wp2
               go_meet
               case rel => exact ⟨_, (decide (t115 ≤ 0)), (by first | rfl | (simp; done) | (simp [*]; done)), H', ⟨by have := HJ3.out; have := HJ14.out; have := HJ30.out; have := HJ35.out; first | omega | exact Nat.le_refl _⟩, ⟨by repeat (first | (with_reducible first | exact HB.out | apply below_alloc | apply pw_below_drewN | apply below_drew1) | exact HB.out)⟩⟩
              ·rw [if_neg c41] at H
               have c41b0 : decide (t114 ≤ 0) = false := decide_eq_false c41
               clear c41
               (first | rw [c41b0] | (simp only [i64_w, i32_w]; rw [c41b0]) | skip)
               have H' := Aside0.mk H
               clear H
               go_wp2
               go_meet
               case rel => exact ⟨_, (false), (by first | rfl | (simp; done) | (simp [*]; done)), H', ⟨by have := HJ3.out; have := HJ14.out; have := HJ30.out; have := HJ35.out; first | omega | exact Nat.le_refl _⟩, ⟨by repeat (first | (with_reducible first | exact HB.out | apply below_alloc | apply pw_below_drewN | apply below_drew1) | exact HB.out)⟩⟩
             case rest =>
              clear HC40
              try clear c1
              try clear c2
              try clear p2
              try clear c3
              try clear c4
              try clear c6
              try clear c6b0
              try clear c6b1
              try clear p6
              try clear c8
              try clear c11
              try clear c20
              try clear c20b0
              try clear c20b1
              try clear c22
              try clear c22b0
              try clear c22b1
              try clear c30
              try clear c32
              try clear c32b0
              try clear c33
              try clear c33b0
              try clear c34
              try clear c34b0
              try clear c35
              try clear c37
              try clear c37b0
              try clear c37b1
              try clear c37b2
              try clear c38
              try clear c38b0
              try clear c38b1
              try clear c38b2
              try clear c39
              try clear c41
              try clear c41b0
              try clear p2
              try clear p6
              obtain ⟨kq, x88_39, rfl, HA, HJ39, HB⟩ := hcut
              cases kq with
              | zero => exact absurd HA.out (by simp [barrowlaw02_GoodsOrderTotal.j4])
              | succ kj39 =>
               have H := HA.out
               clear HA
               simp only [barrowlaw02_GoodsOrderTotal.j4] at H
               by_cases c42 : x88_39 = true
               ·subst c42
                have H1 : (if t116 ≤ 0 then (if t114 = 0 then (some ((t116 == 0) == (t115 == 0))) else (some ((t116 == 0) == false))) else (some false)) = some r := by rw [if_pos rfl] at H; exact H
                clear H
                have H := H1
                clear H1
                by_cases c43 : t116 ≤ 0
                ·rw [if_pos c43] at H
                 have c43b0 : decide (t116 ≤ 0) = true := decide_eq_true c43
                 clear c43
                 by_cases c44 : t114 = 0
                 ·rw [if_pos c44] at H
                  have c44b0 : (t114 == 0) = true := beq_iff_eq.mpr c44
                  have c44b1 : (t114 != 0) = false := bne_eq_false_iff_eq.mpr c44
                  clear c44
                  obtain rfl := Option.some.inj H
                  go_wp2
                  go_ret
                  exact ⟨by first | rfl | (simp [errW_none, errW_some] <;> rfl) | (simp [*, errW_none, errW_some] <;> rfl), by repeat (first | (with_reducible first | exact HB.out | apply below_alloc | apply pw_below_drewN | apply below_drew1) | exact HB.out)⟩
                 ·rw [if_neg c44] at H
                  have c44b0 : (t114 == 0) = false := beq_eq_false_iff_ne.mpr c44
                  have c44b1 : (t114 != 0) = true := bne_iff_ne.mpr c44
                  obtain rfl := Option.some.inj H
                  go_wp2
                  go_ret
                  exact ⟨by first | rfl | (simp [errW_none, errW_some] <;> rfl) | (simp [*, errW_none, errW_some] <;> rfl), by repeat (first | (with_reducible first | exact HB.out | apply below_alloc | apply pw_below_drewN | apply below_drew1) | exact HB.out)⟩
                ·rw [if_neg c43] at H
                 have c43b0 : decide (t116 ≤ 0) = false := decide_eq_false c43
                 clear c43
                 obtain rfl := Option.some.inj H
                 go_wp2
                 go_ret
                 exact ⟨by first | rfl | (simp [errW_none, errW_some] <;> rfl) | (simp [*, errW_none, errW_some] <;> rfl), by repeat (first | (with_reducible first | exact HB.out | apply below_alloc | apply pw_below_drewN | apply below_drew1) | exact HB.out)⟩
               ·replace c42 := Bool.eq_false_iff.mpr c42
                subst c42
                have H1 : (if t114 ≥ 0 then (if t115 ≥ 0 then (if t116 ≥ 0 then (if t114 = 0 then (some ((t116 == 0) == (t115 == 0))) else (some ((t116 == 0) == false))) else (some false)) else (some true)) else (some true)) = some r := by rw [if_neg (show ¬ (false = true) by decide)] at H; exact H
                clear H
                have H := H1
                clear H1
                by_cases c45 : t114 ≥ 0
                ·rw [if_pos c45] at H
                 have c45b0 : decide (0 ≤ t114) = true := decide_eq_true c45
                 clear c45
                 by_cases c46 : t115 ≥ 0
                 ·rw [if_pos c46] at H
                  have c46b0 : decide (0 ≤ t115) = true := decide_eq_true c46
                  clear c46
                  by_cases c47 : t116 ≥ 0
                  ·rw [if_pos c47] at H
                   have c47b0 : decide (0 ≤ t116) = true := decide_eq_true c47
                   clear c47
                   by_cases c48 : t114 = 0
                   ·rw [if_pos c48] at H
                    have c48b0 : (t114 == 0) = true := beq_iff_eq.mpr c48
                    have c48b1 : (t114 != 0) = false := bne_eq_false_iff_eq.mpr c48
                    clear c48
                    obtain rfl := Option.some.inj H
                    go_wp2
                    go_ret
                    exact ⟨by first | rfl | (simp [errW_none, errW_some] <;> rfl) | (simp [*, errW_none, errW_some] <;> rfl), by repeat (first | (with_reducible first | exact HB.out | apply below_alloc | apply pw_below_drewN | apply below_drew1) | exact HB.out)⟩
                   ·rw [if_neg c48] at H
                    have c48b0 : (t114 == 0) = false := beq_eq_false_iff_ne.mpr c48
                    have c48b1 : (t114 != 0) = true := bne_iff_ne.mpr c48
                    obtain rfl := Option.some.inj H
                    go_wp2
                    go_ret
                    exact ⟨by first | rfl | (simp [errW_none, errW_some] <;> rfl) | (simp [*, errW_none, errW_some] <;> rfl), by repeat (first | (with_reducible first | exact HB.out | apply below_alloc | apply pw_below_drewN | apply below_drew1) | exact HB.out)⟩
                  ·rw [if_neg c47] at H
                   have c47b0 : decide (0 ≤ t116) = false := decide_eq_false c47
                   clear c47
                   obtain rfl := Option.some.inj H
                   go_wp2
                   go_ret
                   exact ⟨by first | rfl | (simp [errW_none, errW_some] <;> rfl) | (simp [*, errW_none, errW_some] <;> rfl), by repeat (first | (with_reducible first | exact HB.out | apply below_alloc | apply pw_below_drewN | apply below_drew1) | exact HB.out)⟩
                 ·rw [if_neg c46] at H
                  have c46b0 : decide (0 ≤ t115) = false := decide_eq_false c46
                  clear c46
                  obtain rfl := Option.some.inj H
                  go_wp2
                  go_ret
                  exact ⟨by first | rfl | (simp [errW_none, errW_some] <;> rfl) | (simp [*, errW_none, errW_some] <;> rfl), by repeat (first | (with_reducible first | exact HB.out | apply below_alloc | apply pw_below_drewN | apply below_drew1) | exact HB.out)⟩
                ·rw [if_neg c45] at H
                 have c45b0 : decide (0 ≤ t114) = false := decide_eq_false c45
                 clear c45
                 obtain rfl := Option.some.inj H
                 go_wp2
                 go_ret
                 exact ⟨by first | rfl | (simp [errW_none, errW_some] <;> rfl) | (simp [*, errW_none, errW_some] <;> rfl), by repeat (first | (with_reducible first | exact HB.out | apply below_alloc | apply pw_below_drewN | apply below_drew1) | exact HB.out)⟩

end Go.Proofs.YtmicghhmbojkfaaDoor.G
