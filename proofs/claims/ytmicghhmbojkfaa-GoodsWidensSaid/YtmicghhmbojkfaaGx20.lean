-- PRINTED by print.py (a twelfth state) out of the translation. Not trusted: Lean checks it.
import Derived.Test.YtmicghhmbojkfaaGx0
import Derived.Test.YtmicghhmbojkfaaGx17
import Derived.Test.YtmicghhmbojkfaaGx18
namespace Go.Proofs.Ytmicghhmbojkfaa.G
open Go.RowKit Go.Proofs.YtmicghhmbojkfaaW.PrintWords Go.Proofs.YtmicghhmbojkfaaW.PrintLast Go.Proofs.YtmicghhmbojkfaaW.PrintMore
attribute [local go_sem] max2_int min2_int max_two min_two max_three min_three max_four min_four   -- for this text's walks alone
set_option linter.unusedVariables false
set_option linter.unusedSimpArgs false

/-! ### barrowlaw02_GoodsWidens: function 7 -/
mutual
def barrowlaw02_GoodsWidens.j0 : Nat → ByteArray → Bool → Option (Bool)
 | 0, _, _ => none
 | k + 1, x0, x17 => if x17 = true then (some false) else ((goods_Gtin.f k x0).bind fun bt264 => ((goods_Widen.f k x0).bind fun bt266 => (if bt264.2 = 0 then (if bt266.2 = 0 then (if bt264.1 = (x0.size : Int) then (barrowlaw02_GoodsWidens.j1 k x0 bt266.1 bt264.1 ((bt266.1.size : Int) != 14)) else (barrowlaw02_GoodsWidens.j1 k x0 bt266.1 bt264.1 true)) else (barrowlaw02_GoodsWidens.j1 k x0 bt266.1 bt264.1 true)) else (if bt264.1 = 0 then (if bt266.1.toList = ([] : List UInt8) then (some (bt266.2 == bt264.2)) else (some false)) else (some false)))))
def barrowlaw02_GoodsWidens.j1 : Nat → ByteArray → ByteArray → Int → Bool → Option (Bool)
 | 0, _, _, _, _ => none
 | k + 1, x0, x3, x5, x53 => if x53 = true then (some false) else (barrowlaw02_GoodsWidens.l0 k x0 x3 x5 0)
def barrowlaw02_GoodsWidens.l0 : Nat → ByteArray → ByteArray → Int → Int → Option (Bool)
 | 0, _, _, _, _ => none
 | k + 1, x0, x3, x5, x7 => if x7 < (wrap64 (14 - x5)) then (if 0 ≤ x7 then (if x7 < (x3.size : Int) then (if (bt x3 x7) = 48 then (barrowlaw02_GoodsWidens.l0 k x0 x3 x5 (wrap64 (x7 + 1))) else (some false)) else (none)) else (none)) else (if 0 ≤ (wrap64 (14 - x5)) then (if (wrap64 (14 - x5)) ≤ (x3.size : Int) then (some ((x3.extract ((wrap64 (14 - x5)) : Int).toNat x3.size).toList == x0.toList)) else (none)) else (none))
end
def barrowlaw02_GoodsWidens.f (k : Nat) (a0 : ByteArray) : Option (Bool) := (goods_Widen.f k (⟨#[55, 51, 53, 49, 51, 53, 51, 55]⟩ : ByteArray)).bind fun bt262 => (if bt262.1.toList = ([48, 48, 48, 48, 48, 48, 55, 51, 53, 49, 51, 53, 51, 55] : List UInt8) then (barrowlaw02_GoodsWidens.j0 k a0 (bt262.2 != 0)) else (barrowlaw02_GoodsWidens.j0 k a0 true))
theorem barrowlaw02_GoodsWidens.mono_l : ∀ k, (∀ y0 y1, LeO (barrowlaw02_GoodsWidens.j0 k y0 y1) (barrowlaw02_GoodsWidens.j0 (k + 1) y0 y1)) ∧ (∀ y0 y1 y2 y3, LeO (barrowlaw02_GoodsWidens.j1 k y0 y1 y2 y3) (barrowlaw02_GoodsWidens.j1 (k + 1) y0 y1 y2 y3)) ∧ (∀ y0 y1 y2 y3, LeO (barrowlaw02_GoodsWidens.l0 k y0 y1 y2 y3) (barrowlaw02_GoodsWidens.l0 (k + 1) y0 y1 y2 y3))
 | 0 => ⟨fun _ _ r h => by simp [barrowlaw02_GoodsWidens.j0] at h, fun _ _ _ _ r h => by simp [barrowlaw02_GoodsWidens.j1] at h, fun _ _ _ _ r h => by simp [barrowlaw02_GoodsWidens.l0] at h⟩
 | k + 1 => by
  obtain ⟨ih0, ih1, ih2⟩ := barrowlaw02_GoodsWidens.mono_l k
  refine ⟨?_, ?_, ?_⟩
  ·intro y0 y1
   unfold barrowlaw02_GoodsWidens.j0
   repeat' first
   | (with_reducible exact ih0 _ _)
   | (with_reducible exact ih1 _ _ _ _)
   | (with_reducible exact ih2 _ _ _ _)
   | (with_reducible exact goods_Gtin.mono _ _)
   | (with_reducible exact goods_Widen.mono _ _)
   | (with_reducible exact LeO.refl _)
   | (with_reducible exact LeO.none _)
   | (with_reducible refine LeO.ite ?_ ?_)
   | (with_reducible refine LeO.bind ?_ (fun _ => ?_))
   | exact ih0 _ _
   | exact ih1 _ _ _ _
   | exact ih2 _ _ _ _
   | exact goods_Gtin.mono _ _
   | exact goods_Widen.mono _ _
   | exact LeO.none _
   | refine LeO.ite ?_ ?_
   | refine LeO.bind ?_ (fun _ => ?_)
  ·intro y0 y1 y2 y3
   unfold barrowlaw02_GoodsWidens.j1
   repeat' first
   | (with_reducible exact ih0 _ _)
   | (with_reducible exact ih1 _ _ _ _)
   | (with_reducible exact ih2 _ _ _ _)
   | (with_reducible exact goods_Gtin.mono _ _)
   | (with_reducible exact goods_Widen.mono _ _)
   | (with_reducible exact LeO.refl _)
   | (with_reducible exact LeO.none _)
   | (with_reducible refine LeO.ite ?_ ?_)
   | (with_reducible refine LeO.bind ?_ (fun _ => ?_))
   | exact ih0 _ _
   | exact ih1 _ _ _ _
   | exact ih2 _ _ _ _
   | exact goods_Gtin.mono _ _
   | exact goods_Widen.mono _ _
   | exact LeO.none _
   | refine LeO.ite ?_ ?_
   | refine LeO.bind ?_ (fun _ => ?_)
  ·intro y0 y1 y2 y3
   unfold barrowlaw02_GoodsWidens.l0
   repeat' first
   | (with_reducible exact ih0 _ _)
   | (with_reducible exact ih1 _ _ _ _)
   | (with_reducible exact ih2 _ _ _ _)
   | (with_reducible exact goods_Gtin.mono _ _)
   | (with_reducible exact goods_Widen.mono _ _)
   | (with_reducible exact LeO.refl _)
   | (with_reducible exact LeO.none _)
   | (with_reducible refine LeO.ite ?_ ?_)
   | (with_reducible refine LeO.bind ?_ (fun _ => ?_))
   | exact ih0 _ _
   | exact ih1 _ _ _ _
   | exact ih2 _ _ _ _
   | exact goods_Gtin.mono _ _
   | exact goods_Widen.mono _ _
   | exact LeO.none _
   | refine LeO.ite ?_ ?_
   | refine LeO.bind ?_ (fun _ => ?_)
theorem barrowlaw02_GoodsWidens.mono : ∀ a0 k, LeO (barrowlaw02_GoodsWidens.f k a0) (barrowlaw02_GoodsWidens.f (k + 1) a0) := by
 intro a0 k
 obtain ⟨ih0, ih1, ih2⟩ := barrowlaw02_GoodsWidens.mono_l k
 unfold barrowlaw02_GoodsWidens.f
 repeat' first
   | (with_reducible exact ih0 _ _)
   | (with_reducible exact ih1 _ _ _ _)
   | (with_reducible exact ih2 _ _ _ _)
   | (with_reducible exact goods_Gtin.mono _ _)
   | (with_reducible exact goods_Widen.mono _ _)
   | (with_reducible exact LeO.refl _)
   | (with_reducible exact LeO.none _)
   | (with_reducible refine LeO.ite ?_ ?_)
   | (with_reducible refine LeO.bind ?_ (fun _ => ?_))
   | exact ih0 _ _
   | exact ih1 _ _ _ _
   | exact ih2 _ _ _ _
   | exact goods_Gtin.mono _ _
   | exact goods_Widen.mono _ _
   | exact LeO.none _
   | refine LeO.ite ?_ ?_
   | refine LeO.bind ?_ (fun _ => ?_)
set_option maxHeartbeats 8000000 in
set_option maxRecDepth 100000 in
theorem barrowlaw02_GoodsWidens.calls (k : Nat) (a0 : ByteArray) (r : Bool) (w : World) (h : barrowlaw02_GoodsWidens.f k a0 = some r) :
  Calls Try.prog 7 #[.string a0] w fun e w' => e = .returned (.bool r) ∧ Below w.heap.size w w' := by
 have HB := Aside0.mk (Below.refl w.heap.size w)
 have H : ((goods_Widen.f k (⟨#[55, 51, 53, 49, 51, 53, 51, 55]⟩ : ByteArray)).bind fun bt262 => (if bt262.1.toList = ([48, 48, 48, 48, 48, 48, 55, 51, 53, 49, 51, 53, 51, 55] : List UInt8) then (barrowlaw02_GoodsWidens.j0 k a0 (bt262.2 != 0)) else (barrowlaw02_GoodsWidens.j0 k a0 true))) = some r := h
 clear h
 replace H := Option.bind_eq_some_iff.mp H
 obtain ⟨⟨t262, t263⟩, A20, H⟩ := H
 replace H : (if t262.toList = ([48, 48, 48, 48, 48, 48, 55, 51, 53, 49, 51, 53, 51, 55] : List UInt8) then (barrowlaw02_GoodsWidens.j0 k a0 (t263 != 0)) else (barrowlaw02_GoodsWidens.j0 k a0 true)) = some r := H
 have A2 := Aside0.mk A20
 clear A20
 have HC3 := Aside0.mk H
 clear H
 go_enter Try.func7, Try.ntmps7
 go_upto_region 2 with (first | ((with_reducible refine gate_callee (f := 16) rfl ?_); refine goesL_ (some 9) rfl rfl Try.func16 (by kernel_rfl) rfl #[.string (⟨#[55, 51, 53, 49, 51, 53, 51, 55]⟩ : ByteArray)] rfl (by (try simp only [List.map_toArray, List.map_cons, List.map_nil]); first | done | rfl | (simp only [List.length_drop, List.length_take]; rfl)) ?_; (with_reducible refine (goods_Widen.calls k (⟨#[55, 51, 53, 49, 51, 53, 51, 55]⟩ : ByteArray) t262 t263 _ A2.out).mono ?_); rintro e w4 ⟨rfl, hb⟩; refine ⟨_, rfl, ?_⟩; have n0_ := Aside0.mk (below_step (by repeat (first | (with_reducible first | exact HB.out | apply below_alloc | apply pw_below_drewN | apply below_drew1) | exact HB.out)) hb); clear HB; have HB := n0_; clear n0_; (try clear hb); (try clear hb2); (try clear hk); (try clear hi)))
 (try simp only [Act.put, List.setIfInBounds_toArray, List.set_cons_zero, List.set_cons_succ])
 go_cut [17] (fun v17 wc => ∃ (kq : Nat) (x17_2 : Bool), v17 = .bool x17_2 ∧ Aside0 (barrowlaw02_GoodsWidens.j0 kq a0 x17_2 = some r) ∧ Aside0 (kq ≤ k) ∧ Aside0 (Below w.heap.size w wc))
 case first =>
  have H := HC3.out
  clear HC3
  by_cases c5 : t262.toList = ([48, 48, 48, 48, 48, 48, 55, 51, 53, 49, 51, 53, 51, 55] : List UInt8)
  ·rw [if_pos c5] at H
   have c5b0 : (t262.toList == ([48, 48, 48, 48, 48, 48, 55, 51, 53, 49, 51, 53, 51, 55] : List UInt8)) = true := beq_iff_eq.mpr c5
   have c5b1 : (t262.toList != ([48, 48, 48, 48, 48, 48, 55, 51, 53, 49, 51, 53, 51, 55] : List UInt8)) = false := bne_eq_false_iff_eq.mpr c5
   clear c5
   (first | rw [c5b0] | (simp only [i64_w, i32_w]; rw [c5b0]) | skip)
   have H' := Aside0.mk H
   clear H
   go_wp2
   go_meet
   case rel => exact ⟨_, ((t263 != 0)), (by first | rfl | (simp; done) | (simp [*]; done)), H', ⟨by first | omega | exact Nat.le_refl _⟩, ⟨by repeat (first | (with_reducible first | exact HB.out | apply below_alloc | apply pw_below_drewN | apply below_drew1) | exact HB.out)⟩⟩
  ·rw [if_neg c5] at H
   have c5b0 : (t262.toList == ([48, 48, 48, 48, 48, 48, 55, 51, 53, 49, 51, 53, 51, 55] : List UInt8)) = false := beq_eq_false_iff_ne.mpr c5
   have c5b1 : (t262.toList != ([48, 48, 48, 48, 48, 48, 55, 51, 53, 49, 51, 53, 51, 55] : List UInt8)) = true := bne_iff_ne.mpr c5
   (first | rw [c5b0] | (simp only [i64_w, i32_w]; rw [c5b0]) | skip)
   have H' := Aside0.mk H
   clear H
   go_wp2
   go_meet
   case rel => exact ⟨_, (true), (by first | rfl | (simp; done) | (simp [*]; done)), H', ⟨by first | omega | exact Nat.le_refl _⟩, ⟨by repeat (first | (with_reducible first | exact HB.out | apply below_alloc | apply pw_below_drewN | apply below_drew1) | exact HB.out)⟩⟩
 case rest =>
  clear HC3
  try clear c1
  try clear p2
  try clear c5
  try clear c5b0
  try clear c5b1
  obtain ⟨kq, x17_2, rfl, HA, HJ2, HB⟩ := hcut
  cases kq with
  | zero => exact absurd HA.out (by simp [barrowlaw02_GoodsWidens.j0])
  | succ kj2 =>
   have H := HA.out
   clear HA
   simp only [barrowlaw02_GoodsWidens.j0] at H
   by_cases c6 : x17_2 = true
   ·subst c6
    have H1 : (some false) = some r := by rw [if_pos rfl] at H; exact H
    clear H
    have H := H1
    clear H1
    obtain rfl := Option.some.inj H
    go_wp2
    go_ret
    exact ⟨by first | rfl | (simp [errW_none, errW_some] <;> rfl) | (simp [*, errW_none, errW_some] <;> rfl), by repeat (first | (with_reducible first | exact HB.out | apply below_alloc | apply pw_below_drewN | apply below_drew1) | exact HB.out)⟩
   ·replace c6 := Bool.eq_false_iff.mpr c6
    subst c6
    have H1 : ((goods_Gtin.f kj2 a0).bind fun bt264 => ((goods_Widen.f kj2 a0).bind fun bt266 => (if bt264.2 = 0 then (if bt266.2 = 0 then (if bt264.1 = (a0.size : Int) then (barrowlaw02_GoodsWidens.j1 kj2 a0 bt266.1 bt264.1 ((bt266.1.size : Int) != 14)) else (barrowlaw02_GoodsWidens.j1 kj2 a0 bt266.1 bt264.1 true)) else (barrowlaw02_GoodsWidens.j1 kj2 a0 bt266.1 bt264.1 true)) else (if bt264.1 = 0 then (if bt266.1.toList = ([] : List UInt8) then (some (bt266.2 == bt264.2)) else (some false)) else (some false))))) = some r := by rw [if_neg (show ¬ (false = true) by decide)] at H; exact H
    clear H
    have H := H1
    clear H1
    replace H := Option.bind_eq_some_iff.mp H
    obtain ⟨⟨t264, t265⟩, A70, H⟩ := H
    replace H : ((goods_Widen.f kj2 a0).bind fun bt266 => (if t265 = 0 then (if bt266.2 = 0 then (if t264 = (a0.size : Int) then (barrowlaw02_GoodsWidens.j1 kj2 a0 bt266.1 t264 ((bt266.1.size : Int) != 14)) else (barrowlaw02_GoodsWidens.j1 kj2 a0 bt266.1 t264 true)) else (barrowlaw02_GoodsWidens.j1 kj2 a0 bt266.1 t264 true)) else (if t264 = 0 then (if bt266.1.toList = ([] : List UInt8) then (some (bt266.2 == t265)) else (some false)) else (some false)))) = some r := H
    have A7 := Aside0.mk A70
    clear A70
    replace H := Option.bind_eq_some_iff.mp H
    obtain ⟨⟨t266, t267⟩, A80, H⟩ := H
    replace H : (if t265 = 0 then (if t267 = 0 then (if t264 = (a0.size : Int) then (barrowlaw02_GoodsWidens.j1 kj2 a0 t266 t264 ((t266.size : Int) != 14)) else (barrowlaw02_GoodsWidens.j1 kj2 a0 t266 t264 true)) else (barrowlaw02_GoodsWidens.j1 kj2 a0 t266 t264 true)) else (if t264 = 0 then (if t266.toList = ([] : List UInt8) then (some (t267 == t265)) else (some false)) else (some false))) = some r := H
    have A8 := Aside0.mk A80
    clear A80
    by_cases c9 : t265 = 0
    ·rw [if_pos c9] at H
     have c9b0 : (t265 == 0) = true := beq_iff_eq.mpr c9
     have c9b1 : (t265 != 0) = false := bne_eq_false_iff_eq.mpr c9
     clear c9
     have HC10 := Aside0.mk H
     clear H
     go_upto_region 8 with (first | ((with_reducible refine gate_callee (f := 15) rfl ?_); refine goesL_ (some 20) rfl rfl Try.func15 (by kernel_rfl) rfl #[.string a0] rfl (by (try simp only [List.map_toArray, List.map_cons, List.map_nil]); first | done | rfl | (simp only [List.length_drop, List.length_take]; rfl)) ?_; (with_reducible refine (goods_Gtin.calls kj2 a0 t264 t265 _ A7.out).mono ?_); rintro e w11 ⟨rfl, hb⟩; refine ⟨_, rfl, ?_⟩; have n0_ := Aside0.mk (below_step (by repeat (first | (with_reducible first | exact HB.out | apply below_alloc | apply pw_below_drewN | apply below_drew1) | exact HB.out)) hb); clear HB; have HB := n0_; clear n0_; (try clear hb); (try clear hb2); (try clear hk); (try clear hi)) | ((with_reducible refine gate_callee (f := 16) rfl ?_); refine goesL_ (some 25) rfl rfl Try.func16 (by kernel_rfl) rfl #[.string a0] rfl (by (try simp only [List.map_toArray, List.map_cons, List.map_nil]); first | done | rfl | (simp only [List.length_drop, List.length_take]; rfl)) ?_; (with_reducible refine (goods_Widen.calls kj2 a0 t266 t267 _ A8.out).mono ?_); rintro e w12 ⟨rfl, hb⟩; refine ⟨_, rfl, ?_⟩; have n0_ := Aside0.mk (below_step (by repeat (first | (with_reducible first | exact HB.out | apply below_alloc | apply pw_below_drewN | apply below_drew1) | exact HB.out)) hb); clear HB; have HB := n0_; clear n0_; (try clear hb); (try clear hb2); (try clear hk); (try clear hi)))
     (try simp only [Act.put, List.setIfInBounds_toArray, List.set_cons_zero, List.set_cons_succ])
     go_cut [53] (fun v53 wc => ∃ (kq : Nat) (x53_9 : Bool), v53 = .bool x53_9 ∧ Aside0 (barrowlaw02_GoodsWidens.j1 kq a0 t266 t264 x53_9 = some r) ∧ Aside0 (kq ≤ kj2) ∧ Aside0 (Below w.heap.size w wc))
     case first =>
      have H := HC10.out
      clear HC10
      by_cases c13 : t267 = 0
      ·rw [if_pos c13] at H
       have c13b0 : (t267 == 0) = true := beq_iff_eq.mpr c13
       have c13b1 : (t267 != 0) = false := bne_eq_false_iff_eq.mpr c13
       clear c13
       (first | rw [c13b0] | (simp only [i64_w, i32_w]; rw [c13b0]) | skip)
       by_cases c14 : t264 = (a0.size : Int)
       ·rw [if_pos c14] at H
        have c14b0 : (t264 == (a0.size : Int)) = true := beq_iff_eq.mpr c14
        have c14b1 : (t264 != (a0.size : Int)) = false := bne_eq_false_iff_eq.mpr c14
        clear c14
        have H' := Aside0.mk H
        clear H
        go_wp2
        go_meet
        case rel => exact ⟨_, (((t266.size : Int) != 14)), (by first | rfl | (simp; done) | (simp [*]; done)), H', ⟨by have := HJ2.out; first | omega | exact Nat.le_refl _⟩, ⟨by repeat (first | (with_reducible first | exact HB.out | apply below_alloc | apply pw_below_drewN | apply below_drew1) | exact HB.out)⟩⟩
       ·rw [if_neg c14] at H
        have c14b0 : (t264 == (a0.size : Int)) = false := beq_eq_false_iff_ne.mpr c14
        have c14b1 : (t264 != (a0.size : Int)) = true := bne_iff_ne.mpr c14
        have H' := Aside0.mk H
        clear H
        go_wp2
        go_meet
        case rel => exact ⟨_, (true), (by first | rfl | (simp; done) | (simp [*]; done)), H', ⟨by have := HJ2.out; first | omega | exact Nat.le_refl _⟩, ⟨by repeat (first | (with_reducible first | exact HB.out | apply below_alloc | apply pw_below_drewN | apply below_drew1) | exact HB.out)⟩⟩
      ·rw [if_neg c13] at H
       have c13b0 : (t267 == 0) = false := beq_eq_false_iff_ne.mpr c13
       have c13b1 : (t267 != 0) = true := bne_iff_ne.mpr c13
       (first | rw [c13b0] | (simp only [i64_w, i32_w]; rw [c13b0]) | skip)
       have H' := Aside0.mk H
       clear H
       go_wp2
       go_meet
       case rel => exact ⟨_, (true), (by first | rfl | (simp; done) | (simp [*]; done)), H', ⟨by have := HJ2.out; first | omega | exact Nat.le_refl _⟩, ⟨by repeat (first | (with_reducible first | exact HB.out | apply below_alloc | apply pw_below_drewN | apply below_drew1) | exact HB.out)⟩⟩
     case rest =>
      clear HC10
      try clear c1
      try clear p2
      try clear c5
      try clear c5b0
      try clear c5b1
      try clear c6
      try clear c7
      try clear c9
      try clear c9b0
      try clear c9b1
      try clear c13
      try clear c13b0
      try clear c13b1
      try clear c14
      try clear c14b0
      try clear c14b1
      try clear p2
      obtain ⟨kq, x53_9, rfl, HA, HJ9, HB⟩ := hcut
      cases kq with
      | zero => exact absurd HA.out (by simp [barrowlaw02_GoodsWidens.j1])
      | succ kj9 =>
       have H := HA.out
       clear HA
       simp only [barrowlaw02_GoodsWidens.j1] at H
       by_cases c15 : x53_9 = true
       ·subst c15
        have H1 : (some false) = some r := by rw [if_pos rfl] at H; exact H
        clear H
        have H := H1
        clear H1
        obtain rfl := Option.some.inj H
        go_wp2
        go_ret
        exact ⟨by first | rfl | (simp [errW_none, errW_some] <;> rfl) | (simp [*, errW_none, errW_some] <;> rfl), by repeat (first | (with_reducible first | exact HB.out | apply below_alloc | apply pw_below_drewN | apply below_drew1) | exact HB.out)⟩
       ·replace c15 := Bool.eq_false_iff.mpr c15
        subst c15
        have H1 : (barrowlaw02_GoodsWidens.l0 kj9 a0 t266 t264 0) = some r := by rw [if_neg (show ¬ (false = true) by decide)] at H; exact H
        clear H
        have H := H1
        clear H1
        have H' := Aside0.mk H
        clear H
        go_wp2
        go_loopg [7] kj9 (fun kq v7 w' => ∃ (x7_3 : Int), v7 = .int .i64 x7_3 ∧ Aside0 (barrowlaw02_GoodsWidens.l0 kq a0 t266 t264 x7_3 = some r) ∧ Aside0 (kq ≤ kj9) ∧ Aside0 (Below w.heap.size w w'))
        case atStart => exact ⟨(0), (by first | rfl | (simp; done) | (simp [*]; done)), H', ⟨Nat.le_refl _⟩, ⟨by repeat (first | (with_reducible first | exact HB.out | apply below_alloc | apply pw_below_drewN | apply below_drew1) | exact HB.out)⟩⟩
        case round =>
         clear H'
         try clear c1
         try clear p2
         try clear c5
         try clear c5b0
         try clear c5b1
         try clear c6
         try clear c7
         try clear c9
         try clear c9b0
         try clear c9b1
         try clear c13
         try clear c13b0
         try clear c13b1
         try clear c14
         try clear c14b0
         try clear c14b1
         try clear c15
         try clear p2
         obtain ⟨x7_3, rfl, HA, HK3, HB⟩ := hrel
         cases gk with
         | zero => exact absurd HA.out (by simp [barrowlaw02_GoodsWidens.l0])
         | succ k3 =>
          have H := HA.out
          clear HA
          simp only [barrowlaw02_GoodsWidens.l0] at H
          by_cases c16 : x7_3 < (wrap64 (14 - t264))
          ·rw [if_pos c16] at H
           have c16b0 : decide (x7_3 < (wrap64 (14 - t264))) = true := decide_eq_true c16
           clear c16
           by_cases c17 : 0 ≤ x7_3
           ·rw [if_pos c17] at H
            have c17b0 : decide (0 ≤ x7_3) = true := decide_eq_true c17
            clear c17
            by_cases c18 : x7_3 < (t266.size : Int)
            ·rw [if_pos c18] at H
             have c18b0 : decide (x7_3 < (t266.size : Int)) = true := decide_eq_true c18
             clear c18
             by_cases c20 : (bt t266 x7_3) = 48
             ·rw [if_pos c20] at H
              have c20b0 : ((bt t266 x7_3) == 48) = true := beq_iff_eq.mpr c20
              have c20b1 : ((bt t266 x7_3) != 48) = false := bne_eq_false_iff_eq.mpr c20
              clear c20
              have H' := Aside0.mk H
              clear H
              have p19 : 0 ≤ (x7_3 : Int) := of_decide_eq_true (by first | (with_reducible assumption) | assumption)
              have q19 : x7_3 < (t266.size : Int) := of_decide_eq_true (by first | (with_reducible assumption) | assumption)
              have hx19 := bt_at t266 x7_3
              replace p19 := eq_true p19
              replace q19 := eq_true q19
              go_wp2
              go_roundg k3
              case measure => have := HJ2.out; have := HJ9.out; have := HK3.out; omega
              case rel => exact ⟨(wrap64 (x7_3 + 1)), (by first | rfl | (simp; done) | (simp [*]; done)), H', ⟨by have := HJ2.out; have := HJ9.out; have := HK3.out; omega⟩, ⟨by repeat (first | (with_reducible first | exact HB.out | apply below_alloc | apply pw_below_drewN | apply below_drew1) | exact HB.out)⟩⟩
             ·rw [if_neg c20] at H
              have c20b0 : ((bt t266 x7_3) == 48) = false := beq_eq_false_iff_ne.mpr c20
              have c20b1 : ((bt t266 x7_3) != 48) = true := bne_iff_ne.mpr c20
              obtain rfl := Option.some.inj H
              have p19 : 0 ≤ (x7_3 : Int) := of_decide_eq_true (by first | (with_reducible assumption) | assumption)
              have q19 : x7_3 < (t266.size : Int) := of_decide_eq_true (by first | (with_reducible assumption) | assumption)
              have hx19 := bt_at t266 x7_3
              replace p19 := eq_true p19
              replace q19 := eq_true q19
              go_wp2
              go_ret
              exact ⟨by first | rfl | (simp [errW_none, errW_some] <;> rfl) | (simp [*, errW_none, errW_some] <;> rfl), by repeat (first | (with_reducible first | exact HB.out | apply below_alloc | apply pw_below_drewN | apply below_drew1) | exact HB.out)⟩
            ·rw [if_neg c18] at H
             exact absurd H (by simp)
           ·rw [if_neg c17] at H
            exact absurd H (by simp)
          ·rw [if_neg c16] at H
           have c16b0 : decide (x7_3 < (wrap64 (14 - t264))) = false := decide_eq_false c16
           clear c16
           obtain ⟨ji21, hji21⟩ : ∃ j_ : Int, (wrap64 (14 - t264)) = j_ := ⟨_, rfl⟩
           replace H : (if 0 ≤ (ji21) then (if (ji21) ≤ (t266.size : Int) then (some ((t266.extract ((ji21) : Int).toNat t266.size).toList == a0.toList)) else (none)) else (none)) = some r := by first | (rw [hji21] at H; exact H) | (simp only [hji21] at H ⊢; exact H)
           (try rw [hji21] at c16b0)
           have hji21w : (IntKind.i64.wrap (14 - t264)) = ji21 := (i64_w _).trans hji21
           by_cases c22 : 0 ≤ (ji21)
           ·rw [if_pos c22] at H
            have c22b0 := eq_true c22
            have c22b1 : decide (0 ≤ (ji21)) = true := decide_eq_true c22
            clear c22
            by_cases c23 : (ji21) ≤ (t266.size : Int)
            ·rw [if_pos c23] at H
             have c23b0 := eq_true c23
             have c23b1 : decide ((ji21) ≤ (t266.size : Int)) = true := decide_eq_true c23
             clear c23
             obtain rfl := Option.some.inj H
             go_wp2
             go_ret
             exact ⟨by first | rfl | (simp [errW_none, errW_some] <;> rfl) | (simp only [← hji21]; first | rfl | (simp [errW_none, errW_some] <;> rfl)) | (simp [*, errW_none, errW_some] <;> rfl), by repeat (first | (with_reducible first | exact HB.out | apply below_alloc | apply pw_below_drewN | apply below_drew1) | exact HB.out)⟩
            ·rw [if_neg c23] at H
             exact absurd H (by simp)
           ·rw [if_neg c22] at H
            exact absurd H (by simp)
    ·rw [if_neg c9] at H
     have c9b0 : (t265 == 0) = false := beq_eq_false_iff_ne.mpr c9
     have c9b1 : (t265 != 0) = true := bne_iff_ne.mpr c9
     by_cases c24 : t264 = 0
     ·rw [if_pos c24] at H
      have c24b0 : (t264 == 0) = true := beq_iff_eq.mpr c24
      have c24b1 : (t264 != 0) = false := bne_eq_false_iff_eq.mpr c24
      clear c24
      by_cases c25 : t266.toList = ([] : List UInt8)
      ·rw [if_pos c25] at H
       have c25b0 : (t266.toList == ([] : List UInt8)) = true := beq_iff_eq.mpr c25
       have c25b1 : (t266.toList != ([] : List UInt8)) = false := bne_eq_false_iff_eq.mpr c25
       clear c25
       obtain rfl := Option.some.inj H
       go_wp2_with (first | ((with_reducible refine gate_callee (f := 15) rfl ?_); refine goesL_ (some 20) rfl rfl Try.func15 (by kernel_rfl) rfl #[.string a0] rfl (by (try simp only [List.map_toArray, List.map_cons, List.map_nil]); first | done | rfl | (simp only [List.length_drop, List.length_take]; rfl)) ?_; (with_reducible refine (goods_Gtin.calls kj2 a0 t264 t265 _ A7.out).mono ?_); rintro e w26 ⟨rfl, hb⟩; refine ⟨_, rfl, ?_⟩; have n0_ := Aside0.mk (below_step (by repeat (first | (with_reducible first | exact HB.out | apply below_alloc | apply pw_below_drewN | apply below_drew1) | exact HB.out)) hb); clear HB; have HB := n0_; clear n0_; (try clear hb); (try clear hb2); (try clear hk); (try clear hi)) | ((with_reducible refine gate_callee (f := 16) rfl ?_); refine goesL_ (some 25) rfl rfl Try.func16 (by kernel_rfl) rfl #[.string a0] rfl (by (try simp only [List.map_toArray, List.map_cons, List.map_nil]); first | done | rfl | (simp only [List.length_drop, List.length_take]; rfl)) ?_; (with_reducible refine (goods_Widen.calls kj2 a0 t266 t267 _ A8.out).mono ?_); rintro e w27 ⟨rfl, hb⟩; refine ⟨_, rfl, ?_⟩; have n0_ := Aside0.mk (below_step (by repeat (first | (with_reducible first | exact HB.out | apply below_alloc | apply pw_below_drewN | apply below_drew1) | exact HB.out)) hb); clear HB; have HB := n0_; clear n0_; (try clear hb); (try clear hb2); (try clear hk); (try clear hi)))
       go_ret
       exact ⟨by first | rfl | (simp [errW_none, errW_some] <;> rfl) | (simp [*, errW_none, errW_some] <;> rfl), by repeat (first | (with_reducible first | exact HB.out | apply below_alloc | apply pw_below_drewN | apply below_drew1) | exact HB.out)⟩
      ·rw [if_neg c25] at H
       have c25b0 : (t266.toList == ([] : List UInt8)) = false := beq_eq_false_iff_ne.mpr c25
       have c25b1 : (t266.toList != ([] : List UInt8)) = true := bne_iff_ne.mpr c25
       obtain rfl := Option.some.inj H
       go_wp2_with (first | ((with_reducible refine gate_callee (f := 15) rfl ?_); refine goesL_ (some 20) rfl rfl Try.func15 (by kernel_rfl) rfl #[.string a0] rfl (by (try simp only [List.map_toArray, List.map_cons, List.map_nil]); first | done | rfl | (simp only [List.length_drop, List.length_take]; rfl)) ?_; (with_reducible refine (goods_Gtin.calls kj2 a0 t264 t265 _ A7.out).mono ?_); rintro e w28 ⟨rfl, hb⟩; refine ⟨_, rfl, ?_⟩; have n0_ := Aside0.mk (below_step (by repeat (first | (with_reducible first | exact HB.out | apply below_alloc | apply pw_below_drewN | apply below_drew1) | exact HB.out)) hb); clear HB; have HB := n0_; clear n0_; (try clear hb); (try clear hb2); (try clear hk); (try clear hi)) | ((with_reducible refine gate_callee (f := 16) rfl ?_); refine goesL_ (some 25) rfl rfl Try.func16 (by kernel_rfl) rfl #[.string a0] rfl (by (try simp only [List.map_toArray, List.map_cons, List.map_nil]); first | done | rfl | (simp only [List.length_drop, List.length_take]; rfl)) ?_; (with_reducible refine (goods_Widen.calls kj2 a0 t266 t267 _ A8.out).mono ?_); rintro e w29 ⟨rfl, hb⟩; refine ⟨_, rfl, ?_⟩; have n0_ := Aside0.mk (below_step (by repeat (first | (with_reducible first | exact HB.out | apply below_alloc | apply pw_below_drewN | apply below_drew1) | exact HB.out)) hb); clear HB; have HB := n0_; clear n0_; (try clear hb); (try clear hb2); (try clear hk); (try clear hi)))
       go_ret
       exact ⟨by first | rfl | (simp [errW_none, errW_some] <;> rfl) | (simp [*, errW_none, errW_some] <;> rfl), by repeat (first | (with_reducible first | exact HB.out | apply below_alloc | apply pw_below_drewN | apply below_drew1) | exact HB.out)⟩
     ·rw [if_neg c24] at H
      have c24b0 : (t264 == 0) = false := beq_eq_false_iff_ne.mpr c24
      have c24b1 : (t264 != 0) = true := bne_iff_ne.mpr c24
      obtain rfl := Option.some.inj H
      go_wp2_with (first | ((with_reducible refine gate_callee (f := 15) rfl ?_); refine goesL_ (some 20) rfl rfl Try.func15 (by kernel_rfl) rfl #[.string a0] rfl (by (try simp only [List.map_toArray, List.map_cons, List.map_nil]); first | done | rfl | (simp only [List.length_drop, List.length_take]; rfl)) ?_; (with_reducible refine (goods_Gtin.calls kj2 a0 t264 t265 _ A7.out).mono ?_); rintro e w30 ⟨rfl, hb⟩; refine ⟨_, rfl, ?_⟩; have n0_ := Aside0.mk (below_step (by repeat (first | (with_reducible first | exact HB.out | apply below_alloc | apply pw_below_drewN | apply below_drew1) | exact HB.out)) hb); clear HB; have HB := n0_; clear n0_; (try clear hb); (try clear hb2); (try clear hk); (try clear hi)) | ((with_reducible refine gate_callee (f := 16) rfl ?_); refine goesL_ (some 25) rfl rfl Try.func16 (by kernel_rfl) rfl #[.string a0] rfl (by (try simp only [List.map_toArray, List.map_cons, List.map_nil]); first | done | rfl | (simp only [List.length_drop, List.length_take]; rfl)) ?_; (with_reducible refine (goods_Widen.calls kj2 a0 t266 t267 _ A8.out).mono ?_); rintro e w31 ⟨rfl, hb⟩; refine ⟨_, rfl, ?_⟩; have n0_ := Aside0.mk (below_step (by repeat (first | (with_reducible first | exact HB.out | apply below_alloc | apply pw_below_drewN | apply below_drew1) | exact HB.out)) hb); clear HB; have HB := n0_; clear n0_; (try clear hb); (try clear hb2); (try clear hk); (try clear hi)))
      go_ret
      exact ⟨by first | rfl | (simp [errW_none, errW_some] <;> rfl) | (simp [*, errW_none, errW_some] <;> rfl), by repeat (first | (with_reducible first | exact HB.out | apply below_alloc | apply pw_below_drewN | apply below_drew1) | exact HB.out)⟩

/-- THE ONE PURE STATEMENT of barrowlaw02_GoodsWidens: yours. -/
def barrowlaw02_GoodsWidens.Pure : Prop := ∀ (a0 : ByteArray), a0.size ≤ 140737488351232 → ∃ k, barrowlaw02_GoodsWidens.f k a0 = some true
theorem barrowlaw02_GoodsWidens.walk (P : barrowlaw02_GoodsWidens.Pure) (a0 : ByteArray) (w : World) (w0 : a0.size ≤ 140737488351232) :
  Calls Try.prog 7 #[.string a0] w fun e w' => e = .returned (.bool true) ∧ Below w.heap.size w w' := by
 obtain ⟨k, h⟩ := P a0 w0
 refine (barrowlaw02_GoodsWidens.calls k a0 true w h).mono ?_
 rintro e w' ⟨rfl, hd⟩
 exact ⟨rfl, hd⟩

end Go.Proofs.Ytmicghhmbojkfaa.G
