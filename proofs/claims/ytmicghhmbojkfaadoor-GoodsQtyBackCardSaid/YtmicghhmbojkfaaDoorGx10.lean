-- PRINTED by print.py (a twelfth state) out of the translation. Not trusted: Lean checks it.
import Derived.Test.YtmicghhmbojkfaaDoorGx0
import Derived.Test.YtmicghhmbojkfaaDoorGx7
import Derived.Test.YtmicghhmbojkfaaDoorGx9
import Derived.Test.YtmicghhmbojkfaaDoorPqt
namespace Go.Proofs.YtmicghhmbojkfaaDoor.G
open Go.RowKit Go.Proofs.YtmicghhmbojkfaaDoorW.PrintWords Go.Proofs.YtmicghhmbojkfaaDoorW.PrintLast Go.Proofs.YtmicghhmbojkfaaDoorW.PrintMore
attribute [local go_sem] max2_int min2_int max_two min_two max_three min_three max_four min_four   -- for this text's walks alone
set_option linter.unusedVariables false
set_option linter.unusedSimpArgs false

/-! ### barrowlaw02_GoodsQtyBack: function 5 -/
mutual
def barrowlaw02_GoodsQtyBack.j0 : Nat → Int → ByteArray → Bool → Option (Bool)
 | 0, _, _, _ => none
 | k + 1, x0, x1, x20 => if x20 = true then (some false) else ((goods_PrintQty.f x0).bind fun bt136 => (if x0 ≥ 1 then (barrowlaw02_GoodsQtyBack.j1 k x0 x1 bt136.1 bt136.2 (decide (x0 ≤ 1000000))) else (barrowlaw02_GoodsQtyBack.j1 k x0 x1 bt136.1 bt136.2 false)))
def barrowlaw02_GoodsQtyBack.j1 : Nat → Int → ByteArray → ByteArray → Int → Bool → Option (Bool)
 | 0, _, _, _, _, _ => none
 | k + 1, x0, x1, x5, x6, x31 => if x31 = true then ((goods_ParseQty.f x5).bind fun bt138 => (if x6 = 0 then (if bt138.2 = 0 then (if bt138.1 = x0 then ((barrowlaw02_decimal.f k ((x0) % 4294967296) 0).bind fun t140 => (if x5.toList = t140.toList then (barrowlaw02_GoodsQtyBack.j2 k x1) else (some false))) else (some false)) else (some false)) else (some false))) else (if x5.toList = ([] : List UInt8) then (if x6 = 6 then (barrowlaw02_GoodsQtyBack.j2 k x1) else (some false)) else (some false))
def barrowlaw02_GoodsQtyBack.j2 : Nat → ByteArray → Option (Bool)
 | 0, _ => none
 | k + 1, x1 => (goods_ParseQty.f x1).bind fun bt141 => (if bt141.2 = 0 then ((goods_PrintQty.f bt141.1).bind fun bt143 => (if bt143.2 = 0 then (some (bt143.1.toList == x1.toList)) else (some false))) else (some (bt141.1 == 0)))
end
def barrowlaw02_GoodsQtyBack.f (k : Nat) (a0 : Int) (a1 : ByteArray) : Option (Bool) := (goods_PrintQty.f 907).bind fun bt134 => (if bt134.1.toList = ([57, 48, 55] : List UInt8) then (barrowlaw02_GoodsQtyBack.j0 k a0 a1 (bt134.2 != 0)) else (barrowlaw02_GoodsQtyBack.j0 k a0 a1 true))
theorem barrowlaw02_GoodsQtyBack.mono_l : ∀ k, (∀ y0 y1 y2, LeO (barrowlaw02_GoodsQtyBack.j0 k y0 y1 y2) (barrowlaw02_GoodsQtyBack.j0 (k + 1) y0 y1 y2)) ∧ (∀ y0 y1 y2 y3 y4, LeO (barrowlaw02_GoodsQtyBack.j1 k y0 y1 y2 y3 y4) (barrowlaw02_GoodsQtyBack.j1 (k + 1) y0 y1 y2 y3 y4)) ∧ (∀ y0, LeO (barrowlaw02_GoodsQtyBack.j2 k y0) (barrowlaw02_GoodsQtyBack.j2 (k + 1) y0))
 | 0 => ⟨fun _ _ _ r h => by simp [barrowlaw02_GoodsQtyBack.j0] at h, fun _ _ _ _ _ r h => by simp [barrowlaw02_GoodsQtyBack.j1] at h, fun _ r h => by simp [barrowlaw02_GoodsQtyBack.j2] at h⟩
 | k + 1 => by
  obtain ⟨ih0, ih1, ih2⟩ := barrowlaw02_GoodsQtyBack.mono_l k
  refine ⟨?_, ?_, ?_⟩
  ·intro y0 y1 y2
   unfold barrowlaw02_GoodsQtyBack.j0
   repeat' first
   | (with_reducible exact ih0 _ _ _)
   | (with_reducible exact ih1 _ _ _ _ _)
   | (with_reducible exact ih2 _)
   | (with_reducible exact barrowlaw02_decimal.mono _ _ _)
   | (with_reducible exact LeO.refl _)
   | (with_reducible exact LeO.none _)
   | (with_reducible refine LeO.ite ?_ ?_)
   | (with_reducible refine LeO.bind ?_ (fun _ => ?_))
   | exact ih0 _ _ _
   | exact ih1 _ _ _ _ _
   | exact ih2 _
   | exact barrowlaw02_decimal.mono _ _ _
   | exact LeO.none _
   | refine LeO.ite ?_ ?_
   | refine LeO.bind ?_ (fun _ => ?_)
  ·intro y0 y1 y2 y3 y4
   unfold barrowlaw02_GoodsQtyBack.j1
   repeat' first
   | (with_reducible exact ih0 _ _ _)
   | (with_reducible exact ih1 _ _ _ _ _)
   | (with_reducible exact ih2 _)
   | (with_reducible exact barrowlaw02_decimal.mono _ _ _)
   | (with_reducible exact LeO.refl _)
   | (with_reducible exact LeO.none _)
   | (with_reducible refine LeO.ite ?_ ?_)
   | (with_reducible refine LeO.bind ?_ (fun _ => ?_))
   | exact ih0 _ _ _
   | exact ih1 _ _ _ _ _
   | exact ih2 _
   | exact barrowlaw02_decimal.mono _ _ _
   | exact LeO.none _
   | refine LeO.ite ?_ ?_
   | refine LeO.bind ?_ (fun _ => ?_)
  ·intro y0
   unfold barrowlaw02_GoodsQtyBack.j2
   repeat' first
   | (with_reducible exact ih0 _ _ _)
   | (with_reducible exact ih1 _ _ _ _ _)
   | (with_reducible exact ih2 _)
   | (with_reducible exact barrowlaw02_decimal.mono _ _ _)
   | (with_reducible exact LeO.refl _)
   | (with_reducible exact LeO.none _)
   | (with_reducible refine LeO.ite ?_ ?_)
   | (with_reducible refine LeO.bind ?_ (fun _ => ?_))
   | exact ih0 _ _ _
   | exact ih1 _ _ _ _ _
   | exact ih2 _
   | exact barrowlaw02_decimal.mono _ _ _
   | exact LeO.none _
   | refine LeO.ite ?_ ?_
   | refine LeO.bind ?_ (fun _ => ?_)
theorem barrowlaw02_GoodsQtyBack.mono : ∀ a0 a1 k, LeO (barrowlaw02_GoodsQtyBack.f k a0 a1) (barrowlaw02_GoodsQtyBack.f (k + 1) a0 a1) := by
 intro a0 a1 k
 obtain ⟨ih0, ih1, ih2⟩ := barrowlaw02_GoodsQtyBack.mono_l k
 unfold barrowlaw02_GoodsQtyBack.f
 repeat' first
   | (with_reducible exact ih0 _ _ _)
   | (with_reducible exact ih1 _ _ _ _ _)
   | (with_reducible exact ih2 _)
   | (with_reducible exact barrowlaw02_decimal.mono _ _ _)
   | (with_reducible exact LeO.refl _)
   | (with_reducible exact LeO.none _)
   | (with_reducible refine LeO.ite ?_ ?_)
   | (with_reducible refine LeO.bind ?_ (fun _ => ?_))
   | exact ih0 _ _ _
   | exact ih1 _ _ _ _ _
   | exact ih2 _
   | exact barrowlaw02_decimal.mono _ _ _
   | exact LeO.none _
   | refine LeO.ite ?_ ?_
   | refine LeO.bind ?_ (fun _ => ?_)
set_option maxHeartbeats 8000000 in
set_option maxRecDepth 100000 in
theorem barrowlaw02_GoodsQtyBack.calls (k : Nat) (a0 : Int) (a1 : ByteArray) (r : Bool) (w : World) (hTab : Aside0 (Tab w)) (h : barrowlaw02_GoodsQtyBack.f k a0 a1 = some r) :
  Calls Tryd.prog 5 #[.int .i64 a0, .string a1] w fun e w' => e = .returned (.bool r) ∧ Below w.heap.size w w' := by
 have HB := Aside0.mk (Below.refl w.heap.size w)
 have H : ((goods_PrintQty.f 907).bind fun bt134 => (if bt134.1.toList = ([57, 48, 55] : List UInt8) then (barrowlaw02_GoodsQtyBack.j0 k a0 a1 (bt134.2 != 0)) else (barrowlaw02_GoodsQtyBack.j0 k a0 a1 true))) = some r := h
 clear h
 replace H := Option.bind_eq_some_iff.mp H
 obtain ⟨⟨t134, t135⟩, A30, H⟩ := H
 replace H : (if t134.toList = ([57, 48, 55] : List UInt8) then (barrowlaw02_GoodsQtyBack.j0 k a0 a1 (t135 != 0)) else (barrowlaw02_GoodsQtyBack.j0 k a0 a1 true)) = some r := H
 have A3 := Aside0.mk A30
 clear A30
 have HC4 := Aside0.mk H
 clear H
 go_enter Tryd.func5, Tryd.ntmps5
 go_upto_region 2 with (first | ((with_reducible refine gate_callee (f := 11) rfl ?_); refine goesL_ (some 12) rfl rfl Tryd.func11 (by kernel_rfl) rfl #[.int .i64 907] rfl (by (try simp only [List.map_toArray, List.map_cons, List.map_nil]); first | done | rfl | (simp only [List.length_drop, List.length_take]; rfl)) ?_; (with_reducible refine (goods_PrintQty.calls 907 t134 t135 _ ?tab1_ A3.out).mono ?_); (case tab1_ => exact tab_keep hTab (by repeat (first | (with_reducible first | exact HB.out | apply below_alloc | apply pw_below_drewN | apply below_drew1) | exact HB.out))); rintro e w5 ⟨rfl, hb⟩; refine ⟨_, rfl, ?_⟩; have n0_ := Aside0.mk (below_step (by repeat (first | (with_reducible first | exact HB.out | apply below_alloc | apply pw_below_drewN | apply below_drew1) | exact HB.out)) hb); clear HB; have HB := n0_; clear n0_; (try clear hb); (try clear hb2); (try clear hk); (try clear hi)))
 (try simp only [Act.put, List.setIfInBounds_toArray, List.set_cons_zero, List.set_cons_succ])
 go_cut [20] (fun v20 wc => ∃ (kq : Nat) (x20_3 : Bool), v20 = .bool x20_3 ∧ Aside0 (barrowlaw02_GoodsQtyBack.j0 kq a0 a1 x20_3 = some r) ∧ Aside0 (kq ≤ k) ∧ Aside0 (Below w.heap.size w wc))
 case first =>
  have H := HC4.out
  clear HC4
  by_cases c6 : t134.toList = ([57, 48, 55] : List UInt8)
  ·rw [if_pos c6] at H
   have c6b0 : (t134.toList == ([57, 48, 55] : List UInt8)) = true := beq_iff_eq.mpr c6
   have c6b1 : (t134.toList != ([57, 48, 55] : List UInt8)) = false := bne_eq_false_iff_eq.mpr c6
   clear c6
   (first | rw [c6b0] | (simp only [i64_w, i32_w]; rw [c6b0]) | skip)
   have H' := Aside0.mk H
   clear H
   go_wp2
   go_meet
   case rel => exact ⟨_, ((t135 != 0)), (by first | rfl | (simp; done) | (simp [*]; done)), H', ⟨by first | omega | exact Nat.le_refl _⟩, ⟨by repeat (first | (with_reducible first | exact HB.out | apply below_alloc | apply pw_below_drewN | apply below_drew1) | exact HB.out)⟩⟩
  ·rw [if_neg c6] at H
   have c6b0 : (t134.toList == ([57, 48, 55] : List UInt8)) = false := beq_eq_false_iff_ne.mpr c6
   have c6b1 : (t134.toList != ([57, 48, 55] : List UInt8)) = true := bne_iff_ne.mpr c6
   (first | rw [c6b0] | (simp only [i64_w, i32_w]; rw [c6b0]) | skip)
   have H' := Aside0.mk H
   clear H
   go_wp2
   go_meet
   case rel => exact ⟨_, (true), (by first | rfl | (simp; done) | (simp [*]; done)), H', ⟨by first | omega | exact Nat.le_refl _⟩, ⟨by repeat (first | (with_reducible first | exact HB.out | apply below_alloc | apply pw_below_drewN | apply below_drew1) | exact HB.out)⟩⟩
 case rest =>
  clear HC4
  try clear c1
  try clear p2
  try clear c5
  try clear c6
  try clear c6b0
  try clear c6b1
  obtain ⟨kq, x20_3, rfl, HA, HJ3, HB⟩ := hcut
  cases kq with
  | zero => exact absurd HA.out (by simp [barrowlaw02_GoodsQtyBack.j0])
  | succ kj3 =>
   have H := HA.out
   clear HA
   simp only [barrowlaw02_GoodsQtyBack.j0] at H
   by_cases c7 : x20_3 = true
   ·subst c7
    have H1 : (some false) = some r := by rw [if_pos rfl] at H; exact H
    clear H
    have H := H1
    clear H1
    obtain rfl := Option.some.inj H
    go_wp2
    go_ret
    exact ⟨by first | rfl | (simp [errW_none, errW_some] <;> rfl) | (simp [*, errW_none, errW_some] <;> rfl), by repeat (first | (with_reducible first | exact HB.out | apply below_alloc | apply pw_below_drewN | apply below_drew1) | exact HB.out)⟩
   ·replace c7 := Bool.eq_false_iff.mpr c7
    subst c7
    have H1 : ((goods_PrintQty.f a0).bind fun bt136 => (if a0 ≥ 1 then (barrowlaw02_GoodsQtyBack.j1 kj3 a0 a1 bt136.1 bt136.2 (decide (a0 ≤ 1000000))) else (barrowlaw02_GoodsQtyBack.j1 kj3 a0 a1 bt136.1 bt136.2 false))) = some r := by rw [if_neg (show ¬ (false = true) by decide)] at H; exact H
    clear H
    have H := H1
    clear H1
    replace H := Option.bind_eq_some_iff.mp H
    obtain ⟨⟨t136, t137⟩, A80, H⟩ := H
    replace H : (if a0 ≥ 1 then (barrowlaw02_GoodsQtyBack.j1 kj3 a0 a1 t136 t137 (decide (a0 ≤ 1000000))) else (barrowlaw02_GoodsQtyBack.j1 kj3 a0 a1 t136 t137 false)) = some r := H
    have A8 := Aside0.mk A80
    clear A80
    have HC9 := Aside0.mk H
    clear H
    go_upto_region 5 with (first | ((with_reducible refine gate_callee (f := 11) rfl ?_); refine goesL_ (some 23) rfl rfl Tryd.func11 (by kernel_rfl) rfl #[.int .i64 a0] rfl (by (try simp only [List.map_toArray, List.map_cons, List.map_nil]); first | done | rfl | (simp only [List.length_drop, List.length_take]; rfl)) ?_; (with_reducible refine (goods_PrintQty.calls a0 t136 t137 _ ?tab1_ A8.out).mono ?_); (case tab1_ => exact tab_keep hTab (by repeat (first | (with_reducible first | exact HB.out | apply below_alloc | apply pw_below_drewN | apply below_drew1) | exact HB.out))); rintro e w10 ⟨rfl, hb⟩; refine ⟨_, rfl, ?_⟩; have n0_ := Aside0.mk (below_step (by repeat (first | (with_reducible first | exact HB.out | apply below_alloc | apply pw_below_drewN | apply below_drew1) | exact HB.out)) hb); clear HB; have HB := n0_; clear n0_; (try clear hb); (try clear hb2); (try clear hk); (try clear hi)))
    (try simp only [Act.put, List.setIfInBounds_toArray, List.set_cons_zero, List.set_cons_succ])
    go_cut [31] (fun v31 wc => ∃ (kq : Nat) (x31_8 : Bool), v31 = .bool x31_8 ∧ Aside0 (barrowlaw02_GoodsQtyBack.j1 kq a0 a1 t136 t137 x31_8 = some r) ∧ Aside0 (kq ≤ kj3) ∧ Aside0 (Below w.heap.size w wc))
    case first =>
     have H := HC9.out
     clear HC9
     by_cases c11 : a0 ≥ 1
     ·rw [if_pos c11] at H
      have c11b0 : decide (1 ≤ a0) = true := decide_eq_true c11
      clear c11
      (first | rw [c11b0] | (simp only [i64_w, i32_w]; rw [c11b0]) | skip)
      have H' := Aside0.mk H
      clear H
      go_wp2
      go_meet
      case rel => exact ⟨_, (decide (a0 ≤ 1000000)), (by first | rfl | (simp; done) | (simp [*]; done)), H', ⟨by have := HJ3.out; first | omega | exact Nat.le_refl _⟩, ⟨by repeat (first | (with_reducible first | exact HB.out | apply below_alloc | apply pw_below_drewN | apply below_drew1) | exact HB.out)⟩⟩
     ·rw [if_neg c11] at H
      have c11b0 : decide (1 ≤ a0) = false := decide_eq_false c11
      clear c11
      (first | rw [c11b0] | (simp only [i64_w, i32_w]; rw [c11b0]) | skip)
      have H' := Aside0.mk H
      clear H
      go_wp2
      go_meet
      case rel => exact ⟨_, (false), (by first | rfl | (simp; done) | (simp [*]; done)), H', ⟨by have := HJ3.out; first | omega | exact Nat.le_refl _⟩, ⟨by repeat (first | (with_reducible first | exact HB.out | apply below_alloc | apply pw_below_drewN | apply below_drew1) | exact HB.out)⟩⟩
    case rest =>
     clear HC9
     try clear c1
     try clear p2
     try clear c5
     try clear c6
     try clear c6b0
     try clear c6b1
     try clear c7
     try clear c11
     try clear c11b0
     try clear p2
     obtain ⟨kq, x31_8, rfl, HA, HJ8, HB⟩ := hcut
     cases kq with
     | zero => exact absurd HA.out (by simp [barrowlaw02_GoodsQtyBack.j1])
     | succ kj8 =>
      have H := HA.out
      clear HA
      simp only [barrowlaw02_GoodsQtyBack.j1] at H
      have HC12 := Aside0.mk H
      clear H
      go_upto_if 31 with (fail)
      go_cut [] (fun wc => ∃ (kq : Nat), Aside0 (barrowlaw02_GoodsQtyBack.j2 kq a1 = some r) ∧ Aside0 (kq ≤ kj8) ∧ Aside0 (Below w.heap.size w wc))
      case first =>
       have H := HC12.out
       clear HC12
       by_cases c13 : x31_8 = true
       ·subst c13
        have H1 : ((goods_ParseQty.f t136).bind fun bt138 => (if t137 = 0 then (if bt138.2 = 0 then (if bt138.1 = a0 then ((barrowlaw02_decimal.f kj8 ((a0) % 4294967296) 0).bind fun t140 => (if t136.toList = t140.toList then (barrowlaw02_GoodsQtyBack.j2 kj8 a1) else (some false))) else (some false)) else (some false)) else (some false))) = some r := by rw [if_pos rfl] at H; exact H
        clear H
        have H := H1
        clear H1
        replace H := Option.bind_eq_some_iff.mp H
        obtain ⟨⟨t138, t139⟩, A140, H⟩ := H
        replace H : (if t137 = 0 then (if t139 = 0 then (if t138 = a0 then ((barrowlaw02_decimal.f kj8 ((a0) % 4294967296) 0).bind fun t140 => (if t136.toList = t140.toList then (barrowlaw02_GoodsQtyBack.j2 kj8 a1) else (some false))) else (some false)) else (some false)) else (some false)) = some r := H
        have A14 := Aside0.mk A140
        clear A140
        by_cases c15 : t137 = 0
        ·rw [if_pos c15] at H
         have c15b0 : (t137 == 0) = true := beq_iff_eq.mpr c15
         have c15b1 : (t137 != 0) = false := bne_eq_false_iff_eq.mpr c15
         clear c15
         (first | rw [c15b0] | (simp only [i64_w, i32_w]; rw [c15b0]) | skip)
         by_cases c16 : t139 = 0
         ·rw [if_pos c16] at H
          have c16b0 : (t139 == 0) = true := beq_iff_eq.mpr c16
          have c16b1 : (t139 != 0) = false := bne_eq_false_iff_eq.mpr c16
          clear c16
          by_cases c17 : t138 = a0
          ·rw [if_pos c17] at H
           have c17b0 : (t138 == a0) = true := beq_iff_eq.mpr c17
           have c17b1 : (t138 != a0) = false := bne_eq_false_iff_eq.mpr c17
           clear c17
           replace H := Option.bind_eq_some_iff.mp H
           obtain ⟨t140, A180, H⟩ := H
           replace H : (if t136.toList = t140.toList then (barrowlaw02_GoodsQtyBack.j2 kj8 a1) else (some false)) = some r := H
           have A18 := Aside0.mk A180
           clear A180
           by_cases c19 : t136.toList = t140.toList
           ·rw [if_pos c19] at H
            have c19b0 : (t136.toList == t140.toList) = true := beq_iff_eq.mpr c19
            have c19b1 : (t136.toList != t140.toList) = false := bne_eq_false_iff_eq.mpr c19
            clear c19
            have H' := Aside0.mk H
            clear H
            go_wp2_with (first | ((with_reducible refine gate_callee (f := 12) rfl ?_); refine goesL_ (some 34) rfl rfl Tryd.func12 (by kernel_rfl) rfl #[.string t136] rfl (by (try simp only [List.map_toArray, List.map_cons, List.map_nil]); first | done | rfl | (simp only [List.length_drop, List.length_take]; rfl)) ?_; (with_reducible refine (goods_ParseQty.calls t136 t138 t139 _ A14.out).mono ?_); rintro e w20 ⟨rfl, hb⟩; refine ⟨_, rfl, ?_⟩; have n0_ := Aside0.mk (below_step (by repeat (first | (with_reducible first | exact HB.out | apply below_alloc | apply pw_below_drewN | apply below_drew1) | exact HB.out)) hb); clear HB; have HB := n0_; clear n0_; (try clear hb); (try clear hb2); (try clear hk); (try clear hi)) | (go_at_call 10; (with_reducible refine (barrowlaw02_decimal.calls kj8 ((a0) % 4294967296) 0 t140 _ A18.out).mono ?_); rintro e w21 ⟨rfl, hb⟩; have n0_ := Aside0.mk (below_step (by repeat (first | (with_reducible first | exact HB.out | apply below_alloc | apply pw_below_drewN | apply below_drew1) | exact HB.out)) hb); clear HB; have HB := n0_; clear n0_; (try clear hb); (try clear hb2); (try clear hk); (try clear hi)))
            go_meet
            case rel => exact ⟨_, H', ⟨by have := HJ3.out; have := HJ8.out; first | omega | exact Nat.le_refl _⟩, ⟨by repeat (first | (with_reducible first | exact HB.out | apply below_alloc | apply pw_below_drewN | apply below_drew1) | exact HB.out)⟩⟩
           ·rw [if_neg c19] at H
            have c19b0 : (t136.toList == t140.toList) = false := beq_eq_false_iff_ne.mpr c19
            have c19b1 : (t136.toList != t140.toList) = true := bne_iff_ne.mpr c19
            obtain rfl := Option.some.inj H
            go_wp2_with (first | ((with_reducible refine gate_callee (f := 12) rfl ?_); refine goesL_ (some 34) rfl rfl Tryd.func12 (by kernel_rfl) rfl #[.string t136] rfl (by (try simp only [List.map_toArray, List.map_cons, List.map_nil]); first | done | rfl | (simp only [List.length_drop, List.length_take]; rfl)) ?_; (with_reducible refine (goods_ParseQty.calls t136 t138 t139 _ A14.out).mono ?_); rintro e w22 ⟨rfl, hb⟩; refine ⟨_, rfl, ?_⟩; have n0_ := Aside0.mk (below_step (by repeat (first | (with_reducible first | exact HB.out | apply below_alloc | apply pw_below_drewN | apply below_drew1) | exact HB.out)) hb); clear HB; have HB := n0_; clear n0_; (try clear hb); (try clear hb2); (try clear hk); (try clear hi)) | (go_at_call 10; (with_reducible refine (barrowlaw02_decimal.calls kj8 ((a0) % 4294967296) 0 t140 _ A18.out).mono ?_); rintro e w23 ⟨rfl, hb⟩; have n0_ := Aside0.mk (below_step (by repeat (first | (with_reducible first | exact HB.out | apply below_alloc | apply pw_below_drewN | apply below_drew1) | exact HB.out)) hb); clear HB; have HB := n0_; clear n0_; (try clear hb); (try clear hb2); (try clear hk); (try clear hi)))
            go_ret
            exact ⟨by first | rfl | (simp [errW_none, errW_some] <;> rfl) | (simp [*, errW_none, errW_some] <;> rfl), by repeat (first | (with_reducible first | exact HB.out | apply below_alloc | apply pw_below_drewN | apply below_drew1) | exact HB.out)⟩
          ·rw [if_neg c17] at H
           have c17b0 : (t138 == a0) = false := beq_eq_false_iff_ne.mpr c17
           have c17b1 : (t138 != a0) = true := bne_iff_ne.mpr c17
           obtain rfl := Option.some.inj H
           go_wp2_with (first | ((with_reducible refine gate_callee (f := 12) rfl ?_); refine goesL_ (some 34) rfl rfl Tryd.func12 (by kernel_rfl) rfl #[.string t136] rfl (by (try simp only [List.map_toArray, List.map_cons, List.map_nil]); first | done | rfl | (simp only [List.length_drop, List.length_take]; rfl)) ?_; (with_reducible refine (goods_ParseQty.calls t136 t138 t139 _ A14.out).mono ?_); rintro e w24 ⟨rfl, hb⟩; refine ⟨_, rfl, ?_⟩; have n0_ := Aside0.mk (below_step (by repeat (first | (with_reducible first | exact HB.out | apply below_alloc | apply pw_below_drewN | apply below_drew1) | exact HB.out)) hb); clear HB; have HB := n0_; clear n0_; (try clear hb); (try clear hb2); (try clear hk); (try clear hi)))
           go_ret
           exact ⟨by first | rfl | (simp [errW_none, errW_some] <;> rfl) | (simp [*, errW_none, errW_some] <;> rfl), by repeat (first | (with_reducible first | exact HB.out | apply below_alloc | apply pw_below_drewN | apply below_drew1) | exact HB.out)⟩
         ·rw [if_neg c16] at H
          have c16b0 : (t139 == 0) = false := beq_eq_false_iff_ne.mpr c16
          have c16b1 : (t139 != 0) = true := bne_iff_ne.mpr c16
          obtain rfl := Option.some.inj H
          go_wp2_with (first | ((with_reducible refine gate_callee (f := 12) rfl ?_); refine goesL_ (some 34) rfl rfl Tryd.func12 (by kernel_rfl) rfl #[.string t136] rfl (by (try simp only [List.map_toArray, List.map_cons, List.map_nil]); first | done | rfl | (simp only [List.length_drop, List.length_take]; rfl)) ?_; (with_reducible refine (goods_ParseQty.calls t136 t138 t139 _ A14.out).mono ?_); rintro e w25 ⟨rfl, hb⟩; refine ⟨_, rfl, ?_⟩; have n0_ := Aside0.mk (below_step (by repeat (first | (with_reducible first | exact HB.out | apply below_alloc | apply pw_below_drewN | apply below_drew1) | exact HB.out)) hb); clear HB; have HB := n0_; clear n0_; (try clear hb); (try clear hb2); (try clear hk); (try clear hi)))
          go_ret
          exact ⟨by first | rfl | (simp [errW_none, errW_some] <;> rfl) | (simp [*, errW_none, errW_some] <;> rfl), by repeat (first | (with_reducible first | exact HB.out | apply below_alloc | apply pw_below_drewN | apply below_drew1) | exact HB.out)⟩
        ·rw [if_neg c15] at H
         have c15b0 : (t137 == 0) = false := beq_eq_false_iff_ne.mpr c15
         have c15b1 : (t137 != 0) = true := bne_iff_ne.mpr c15
         (first | rw [c15b0] | (simp only [i64_w, i32_w]; rw [c15b0]) | skip)
         obtain rfl := Option.some.inj H
         go_wp2_with (first | ((with_reducible refine gate_callee (f := 12) rfl ?_); refine goesL_ (some 34) rfl rfl Tryd.func12 (by kernel_rfl) rfl #[.string t136] rfl (by (try simp only [List.map_toArray, List.map_cons, List.map_nil]); first | done | rfl | (simp only [List.length_drop, List.length_take]; rfl)) ?_; (with_reducible refine (goods_ParseQty.calls t136 t138 t139 _ A14.out).mono ?_); rintro e w26 ⟨rfl, hb⟩; refine ⟨_, rfl, ?_⟩; have n0_ := Aside0.mk (below_step (by repeat (first | (with_reducible first | exact HB.out | apply below_alloc | apply pw_below_drewN | apply below_drew1) | exact HB.out)) hb); clear HB; have HB := n0_; clear n0_; (try clear hb); (try clear hb2); (try clear hk); (try clear hi)))
         go_ret
         exact ⟨by first | rfl | (simp [errW_none, errW_some] <;> rfl) | (simp [*, errW_none, errW_some] <;> rfl), by repeat (first | (with_reducible first | exact HB.out | apply below_alloc | apply pw_below_drewN | apply below_drew1) | exact HB.out)⟩
       ·replace c13 := Bool.eq_false_iff.mpr c13
        subst c13
        have H1 : (if t136.toList = ([] : List UInt8) then (if t137 = 6 then (barrowlaw02_GoodsQtyBack.j2 kj8 a1) else (some false)) else (some false)) = some r := by rw [if_neg (show ¬ (false = true) by decide)] at H; exact H
        clear H
        have H := H1
        clear H1
        by_cases c27 : t136.toList = ([] : List UInt8)
        ·rw [if_pos c27] at H
         have c27b0 : (t136.toList == ([] : List UInt8)) = true := beq_iff_eq.mpr c27
         have c27b1 : (t136.toList != ([] : List UInt8)) = false := bne_eq_false_iff_eq.mpr c27
         clear c27
         by_cases c28 : t137 = 6
         ·rw [if_pos c28] at H
          have c28b0 : (t137 == 6) = true := beq_iff_eq.mpr c28
          have c28b1 : (t137 != 6) = false := bne_eq_false_iff_eq.mpr c28
          clear c28
          have H' := Aside0.mk H
          clear H
          go_wp2
          go_meet
          case rel => exact ⟨_, H', ⟨by have := HJ3.out; have := HJ8.out; first | omega | exact Nat.le_refl _⟩, ⟨by repeat (first | (with_reducible first | exact HB.out | apply below_alloc | apply pw_below_drewN | apply below_drew1) | exact HB.out)⟩⟩
         ·rw [if_neg c28] at H
          have c28b0 : (t137 == 6) = false := beq_eq_false_iff_ne.mpr c28
          have c28b1 : (t137 != 6) = true := bne_iff_ne.mpr c28
          obtain rfl := Option.some.inj H
          go_wp2
          go_ret
          exact ⟨by first | rfl | (simp [errW_none, errW_some] <;> rfl) | (simp [*, errW_none, errW_some] <;> rfl), by repeat (first | (with_reducible first | exact HB.out | apply below_alloc | apply pw_below_drewN | apply below_drew1) | exact HB.out)⟩
        ·rw [if_neg c27] at H
         have c27b0 : (t136.toList == ([] : List UInt8)) = false := beq_eq_false_iff_ne.mpr c27
         have c27b1 : (t136.toList != ([] : List UInt8)) = true := bne_iff_ne.mpr c27
         obtain rfl := Option.some.inj H
         go_wp2
         go_ret
         exact ⟨by first | rfl | (simp [errW_none, errW_some] <;> rfl) | (simp [*, errW_none, errW_some] <;> rfl), by repeat (first | (with_reducible first | exact HB.out | apply below_alloc | apply pw_below_drewN | apply below_drew1) | exact HB.out)⟩
      case rest =>
       clear HC12
       try clear c1
       try clear c2
       try clear p2
       try clear c5
       try clear c6
       try clear c6b0
       try clear c6b1
       try clear c7
       try clear c11
       try clear c11b0
       try clear c12
       try clear c13
       try clear c15
       try clear c15b0
       try clear c15b1
       try clear c16
       try clear c16b0
       try clear c16b1
       try clear c17
       try clear c17b0
       try clear c17b1
       try clear c19
       try clear c19b0
       try clear c19b1
       try clear c27
       try clear c27b0
       try clear c27b1
       try clear c28
       try clear c28b0
       try clear c28b1
       try clear p2
       obtain ⟨kq, HA, HJ11, HB⟩ := hcut
       cases kq with
       | zero => exact absurd HA.out (by simp [barrowlaw02_GoodsQtyBack.j2])
       | succ kj11 =>
        have H := HA.out
        clear HA
        simp only [barrowlaw02_GoodsQtyBack.j2] at H
        replace H := Option.bind_eq_some_iff.mp H
        obtain ⟨⟨t141, t142⟩, A290, H⟩ := H
        replace H : (if t142 = 0 then ((goods_PrintQty.f t141).bind fun bt143 => (if bt143.2 = 0 then (some (bt143.1.toList == a1.toList)) else (some false))) else (some (t141 == 0))) = some r := H
        have A29 := Aside0.mk A290
        clear A290
        by_cases c30 : t142 = 0
        ·rw [if_pos c30] at H
         have c30b0 : (t142 == 0) = true := beq_iff_eq.mpr c30
         have c30b1 : (t142 != 0) = false := bne_eq_false_iff_eq.mpr c30
         clear c30
         replace H := Option.bind_eq_some_iff.mp H
         obtain ⟨⟨t143, t144⟩, A310, H⟩ := H
         replace H : (if t144 = 0 then (some (t143.toList == a1.toList)) else (some false)) = some r := H
         have A31 := Aside0.mk A310
         clear A310
         by_cases c32 : t144 = 0
         ·rw [if_pos c32] at H
          have c32b0 : (t144 == 0) = true := beq_iff_eq.mpr c32
          have c32b1 : (t144 != 0) = false := bne_eq_false_iff_eq.mpr c32
          clear c32
          obtain rfl := Option.some.inj H
          go_wp2_with (first | ((with_reducible refine gate_callee (f := 12) rfl ?_); refine goesL_ (some 63) rfl rfl Tryd.func12 (by kernel_rfl) rfl #[.string a1] rfl (by (try simp only [List.map_toArray, List.map_cons, List.map_nil]); first | done | rfl | (simp only [List.length_drop, List.length_take]; rfl)) ?_; (with_reducible refine (goods_ParseQty.calls a1 t141 t142 _ A29.out).mono ?_); rintro e w33 ⟨rfl, hb⟩; refine ⟨_, rfl, ?_⟩; have n0_ := Aside0.mk (below_step (by repeat (first | (with_reducible first | exact HB.out | apply below_alloc | apply pw_below_drewN | apply below_drew1) | exact HB.out)) hb); clear HB; have HB := n0_; clear n0_; (try clear hb); (try clear hb2); (try clear hk); (try clear hi)) | ((with_reducible refine gate_callee (f := 11) rfl ?_); refine goesL_ (some 72) rfl rfl Tryd.func11 (by kernel_rfl) rfl #[.int .i64 t141] rfl (by (try simp only [List.map_toArray, List.map_cons, List.map_nil]); first | done | rfl | (simp only [List.length_drop, List.length_take]; rfl)) ?_; (with_reducible refine (goods_PrintQty.calls t141 t143 t144 _ ?tab1_ A31.out).mono ?_); (case tab1_ => exact tab_keep hTab (by repeat (first | (with_reducible first | exact HB.out | apply below_alloc | apply pw_below_drewN | apply below_drew1) | exact HB.out))); rintro e w34 ⟨rfl, hb⟩; refine ⟨_, rfl, ?_⟩; have n0_ := Aside0.mk (below_step (by repeat (first | (with_reducible first | exact HB.out | apply below_alloc | apply pw_below_drewN | apply below_drew1) | exact HB.out)) hb); clear HB; have HB := n0_; clear n0_; (try clear hb); (try clear hb2); (try clear hk); (try clear hi)))
          go_ret
          exact ⟨by first | rfl | (simp [errW_none, errW_some] <;> rfl) | (simp [*, errW_none, errW_some] <;> rfl), by repeat (first | (with_reducible first | exact HB.out | apply below_alloc | apply pw_below_drewN | apply below_drew1) | exact HB.out)⟩
         ·rw [if_neg c32] at H
          have c32b0 : (t144 == 0) = false := beq_eq_false_iff_ne.mpr c32
          have c32b1 : (t144 != 0) = true := bne_iff_ne.mpr c32
          obtain rfl := Option.some.inj H
          go_wp2_with (first | ((with_reducible refine gate_callee (f := 12) rfl ?_); refine goesL_ (some 63) rfl rfl Tryd.func12 (by kernel_rfl) rfl #[.string a1] rfl (by (try simp only [List.map_toArray, List.map_cons, List.map_nil]); first | done | rfl | (simp only [List.length_drop, List.length_take]; rfl)) ?_; (with_reducible refine (goods_ParseQty.calls a1 t141 t142 _ A29.out).mono ?_); rintro e w35 ⟨rfl, hb⟩; refine ⟨_, rfl, ?_⟩; have n0_ := Aside0.mk (below_step (by repeat (first | (with_reducible first | exact HB.out | apply below_alloc | apply pw_below_drewN | apply below_drew1) | exact HB.out)) hb); clear HB; have HB := n0_; clear n0_; (try clear hb); (try clear hb2); (try clear hk); (try clear hi)) | ((with_reducible refine gate_callee (f := 11) rfl ?_); refine goesL_ (some 72) rfl rfl Tryd.func11 (by kernel_rfl) rfl #[.int .i64 t141] rfl (by (try simp only [List.map_toArray, List.map_cons, List.map_nil]); first | done | rfl | (simp only [List.length_drop, List.length_take]; rfl)) ?_; (with_reducible refine (goods_PrintQty.calls t141 t143 t144 _ ?tab1_ A31.out).mono ?_); (case tab1_ => exact tab_keep hTab (by repeat (first | (with_reducible first | exact HB.out | apply below_alloc | apply pw_below_drewN | apply below_drew1) | exact HB.out))); rintro e w36 ⟨rfl, hb⟩; refine ⟨_, rfl, ?_⟩; have n0_ := Aside0.mk (below_step (by repeat (first | (with_reducible first | exact HB.out | apply below_alloc | apply pw_below_drewN | apply below_drew1) | exact HB.out)) hb); clear HB; have HB := n0_; clear n0_; (try clear hb); (try clear hb2); (try clear hk); (try clear hi)))
          go_ret
          exact ⟨by first | rfl | (simp [errW_none, errW_some] <;> rfl) | (simp [*, errW_none, errW_some] <;> rfl), by repeat (first | (with_reducible first | exact HB.out | apply below_alloc | apply pw_below_drewN | apply below_drew1) | exact HB.out)⟩
        ·rw [if_neg c30] at H
         have c30b0 : (t142 == 0) = false := beq_eq_false_iff_ne.mpr c30
         have c30b1 : (t142 != 0) = true := bne_iff_ne.mpr c30
         obtain rfl := Option.some.inj H
         go_wp2_with (first | ((with_reducible refine gate_callee (f := 12) rfl ?_); refine goesL_ (some 63) rfl rfl Tryd.func12 (by kernel_rfl) rfl #[.string a1] rfl (by (try simp only [List.map_toArray, List.map_cons, List.map_nil]); first | done | rfl | (simp only [List.length_drop, List.length_take]; rfl)) ?_; (with_reducible refine (goods_ParseQty.calls a1 t141 t142 _ A29.out).mono ?_); rintro e w37 ⟨rfl, hb⟩; refine ⟨_, rfl, ?_⟩; have n0_ := Aside0.mk (below_step (by repeat (first | (with_reducible first | exact HB.out | apply below_alloc | apply pw_below_drewN | apply below_drew1) | exact HB.out)) hb); clear HB; have HB := n0_; clear n0_; (try clear hb); (try clear hb2); (try clear hk); (try clear hi)))
         go_ret
         exact ⟨by first | rfl | (simp [errW_none, errW_some] <;> rfl) | (simp [*, errW_none, errW_some] <;> rfl), by repeat (first | (with_reducible first | exact HB.out | apply below_alloc | apply pw_below_drewN | apply below_drew1) | exact HB.out)⟩

end Go.Proofs.YtmicghhmbojkfaaDoor.G
