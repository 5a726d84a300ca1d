-- PRINTED by print.py (a twelfth state) out of the translation. Not trusted: Lean checks it.
import Derived.Test.YtmicghhmbojkfaaGx0
import Derived.Test.YtmicghhmbojkfaaGx2
import Derived.Test.YtmicghhmbojkfaaGx3
import Derived.Test.YtmicghhmbojkfaaClean
namespace Go.Proofs.Ytmicghhmbojkfaa.G
open Go.RowKit Go.Proofs.YtmicghhmbojkfaaW.PrintWords Go.Proofs.YtmicghhmbojkfaaW.PrintLast Go.Proofs.YtmicghhmbojkfaaW.PrintMore
attribute [local go_sem] max2_int min2_int max_two min_two max_three min_three max_four min_four   -- for this text's walks alone
set_option linter.unusedVariables false
set_option linter.unusedSimpArgs false

/-! ### barrowlaw02_GoodsCleansOnce: function 4 -/
mutual
def barrowlaw02_GoodsCleansOnce.j0 : Nat → ByteArray → List Int → Bool → Option (Bool)
  | 0, _, _, _ => none
  | k + 1, x0, x1, x18 => if x18 = true then (some false) else ((goods_Clean.f x0).bind fun bt152 => (if bt152.2 = 0 then (barrowlaw02_GoodsCleansOnce.j1 k x1 bt152.1) else (if bt152.1.toList = ([] : List UInt8) then (barrowlaw02_GoodsCleansOnce.j1 k x1 (⟨#[65, 66, 45, 49, 50, 46, 88]⟩ : ByteArray)) else (some false))))
def barrowlaw02_GoodsCleansOnce.j1 : Nat → List Int → ByteArray → Option (Bool)
  | 0, _, _ => none
  | k + 1, x1, x5 => (goods_Good.f k x5).bind fun t154 => (if t154 = true then ((goods_Clean.f x5).bind fun bt155 => (if bt155.1.toList = x5.toList then (barrowlaw02_GoodsCleansOnce.j2 k x1 x5 (bt155.2 != 0)) else (barrowlaw02_GoodsCleansOnce.j2 k x1 x5 true))) else (some false))
def barrowlaw02_GoodsCleansOnce.j2 : Nat → List Int → ByteArray → Bool → Option (Bool)
  | 0, _, _, _ => none
  | k + 1, x1, x5, x42 => if x42 = true then (some false) else ((barrowlaw02_typed.f k x5 x1).bind fun t157 => ((goods_Clean.f t157).bind fun bt158 => (if bt158.1.toList = x5.toList then (some (bt158.2 == 0)) else (some false))))
end
def barrowlaw02_GoodsCleansOnce.f (k : Nat) (a0 : ByteArray) (l1 : List Int) : Option (Bool) := (goods_Clean.f (⟨#[32, 97, 98, 95, 32, 49, 50, 32, 46, 32, 120, 32]⟩ : ByteArray)).bind fun bt150 => (if bt150.1.toList = ([65, 66, 45, 49, 50, 46, 88] : List UInt8) then (barrowlaw02_GoodsCleansOnce.j0 k a0 l1 (bt150.2 != 0)) else (barrowlaw02_GoodsCleansOnce.j0 k a0 l1 true))
theorem barrowlaw02_GoodsCleansOnce.mono_l : ∀ k, (∀ y0 y1 y2, LeO (barrowlaw02_GoodsCleansOnce.j0 k y0 y1 y2) (barrowlaw02_GoodsCleansOnce.j0 (k + 1) y0 y1 y2)) ∧ (∀ y0 y1, LeO (barrowlaw02_GoodsCleansOnce.j1 k y0 y1) (barrowlaw02_GoodsCleansOnce.j1 (k + 1) y0 y1)) ∧ (∀ y0 y1 y2, LeO (barrowlaw02_GoodsCleansOnce.j2 k y0 y1 y2) (barrowlaw02_GoodsCleansOnce.j2 (k + 1) y0 y1 y2))
  | 0 => ⟨fun _ _ _ r h => by simp [barrowlaw02_GoodsCleansOnce.j0] at h, fun _ _ r h => by simp [barrowlaw02_GoodsCleansOnce.j1] at h, fun _ _ _ r h => by simp [barrowlaw02_GoodsCleansOnce.j2] at h⟩
  | k + 1 => by
    obtain ⟨ih0, ih1, ih2⟩ := barrowlaw02_GoodsCleansOnce.mono_l k
    refine ⟨?_, ?_, ?_⟩
    · intro y0 y1 y2
      unfold barrowlaw02_GoodsCleansOnce.j0
      repeat' first
      | (with_reducible exact ih0 _ _ _)
      | (with_reducible exact ih1 _ _)
      | (with_reducible exact ih2 _ _ _)
      | (with_reducible exact barrowlaw02_typed.mono _ _ _)
      | (with_reducible exact goods_Good.mono _ _)
      | (with_reducible exact LeO.refl _)
      | (with_reducible exact LeO.none _)
      | (with_reducible refine LeO.ite ?_ ?_)
      | (with_reducible refine LeO.bind ?_ (fun _ => ?_))
      | exact ih0 _ _ _
      | exact ih1 _ _
      | exact ih2 _ _ _
      | exact barrowlaw02_typed.mono _ _ _
      | exact goods_Good.mono _ _
      | exact LeO.none _
      | refine LeO.ite ?_ ?_
      | refine LeO.bind ?_ (fun _ => ?_)
    · intro y0 y1
      unfold barrowlaw02_GoodsCleansOnce.j1
      repeat' first
      | (with_reducible exact ih0 _ _ _)
      | (with_reducible exact ih1 _ _)
      | (with_reducible exact ih2 _ _ _)
      | (with_reducible exact barrowlaw02_typed.mono _ _ _)
      | (with_reducible exact goods_Good.mono _ _)
      | (with_reducible exact LeO.refl _)
      | (with_reducible exact LeO.none _)
      | (with_reducible refine LeO.ite ?_ ?_)
      | (with_reducible refine LeO.bind ?_ (fun _ => ?_))
      | exact ih0 _ _ _
      | exact ih1 _ _
      | exact ih2 _ _ _
      | exact barrowlaw02_typed.mono _ _ _
      | exact goods_Good.mono _ _
      | exact LeO.none _
      | refine LeO.ite ?_ ?_
      | refine LeO.bind ?_ (fun _ => ?_)
    · intro y0 y1 y2
      unfold barrowlaw02_GoodsCleansOnce.j2
      repeat' first
      | (with_reducible exact ih0 _ _ _)
      | (with_reducible exact ih1 _ _)
      | (with_reducible exact ih2 _ _ _)
      | (with_reducible exact barrowlaw02_typed.mono _ _ _)
      | (with_reducible exact goods_Good.mono _ _)
      | (with_reducible exact LeO.refl _)
      | (with_reducible exact LeO.none _)
      | (with_reducible refine LeO.ite ?_ ?_)
      | (with_reducible refine LeO.bind ?_ (fun _ => ?_))
      | exact ih0 _ _ _
      | exact ih1 _ _
      | exact ih2 _ _ _
      | exact barrowlaw02_typed.mono _ _ _
      | exact goods_Good.mono _ _
      | exact LeO.none _
      | refine LeO.ite ?_ ?_
      | refine LeO.bind ?_ (fun _ => ?_)
theorem barrowlaw02_GoodsCleansOnce.mono : ∀ a0 a1 k, LeO (barrowlaw02_GoodsCleansOnce.f k a0 a1) (barrowlaw02_GoodsCleansOnce.f (k + 1) a0 a1) := by
  intro a0 a1 k
  obtain ⟨ih0, ih1, ih2⟩ := barrowlaw02_GoodsCleansOnce.mono_l k
  unfold barrowlaw02_GoodsCleansOnce.f
  repeat' first
      | (with_reducible exact ih0 _ _ _)
      | (with_reducible exact ih1 _ _)
      | (with_reducible exact ih2 _ _ _)
      | (with_reducible exact barrowlaw02_typed.mono _ _ _)
      | (with_reducible exact goods_Good.mono _ _)
      | (with_reducible exact LeO.refl _)
      | (with_reducible exact LeO.none _)
      | (with_reducible refine LeO.ite ?_ ?_)
      | (with_reducible refine LeO.bind ?_ (fun _ => ?_))
      | exact ih0 _ _ _
      | exact ih1 _ _
      | exact ih2 _ _ _
      | exact barrowlaw02_typed.mono _ _ _
      | exact goods_Good.mono _ _
      | exact LeO.none _
      | refine LeO.ite ?_ ?_
      | refine LeO.bind ?_ (fun _ => ?_)
set_option maxHeartbeats 8000000 in
set_option maxRecDepth 100000 in
theorem barrowlaw02_GoodsCleansOnce.calls (k : Nat) (a0 : ByteArray) (A1 : Option Addr) (c1 : Nat) (l1 : List Int) (r : Bool) (w : World) (hr1 : Kd.C (Kd.int .i64) w A1 l1.length l1) (hc1 : l1.length ≤ c1) (h : barrowlaw02_GoodsCleansOnce.f k a0 l1 = some r) :
    Calls Try.prog 4 #[.string a0, .slice A1 l1.length c1] w fun e w' => e = .returned (.bool r) ∧ Below w.heap.size w w' := by
  have HR1 := Aside0.mk hr1
  have HC1 := Aside0.mk hc1
  clear hr1 hc1
  have HB := Aside0.mk (Below.refl w.heap.size w)
  have H : ((goods_Clean.f (⟨#[32, 97, 98, 95, 32, 49, 50, 32, 46, 32, 120, 32]⟩ : ByteArray)).bind fun bt150 => (if bt150.1.toList = ([65, 66, 45, 49, 50, 46, 88] : List UInt8) then (barrowlaw02_GoodsCleansOnce.j0 k a0 l1 (bt150.2 != 0)) else (barrowlaw02_GoodsCleansOnce.j0 k a0 l1 true))) = some r := h
  clear h
  replace H := Option.bind_eq_some_iff.mp H
  obtain ⟨⟨t150, t151⟩, A30, H⟩ := H
  replace H : (if t150.toList = ([65, 66, 45, 49, 50, 46, 88] : List UInt8) then (barrowlaw02_GoodsCleansOnce.j0 k a0 l1 (t151 != 0)) else (barrowlaw02_GoodsCleansOnce.j0 k a0 l1 true)) = some r := H
  have A3 := Aside0.mk A30
  clear A30
  have HC4 := Aside0.mk H
  clear H
  go_enter Try.func4, Try.ntmps4
  go_upto_region 2 with (first | ((with_reducible refine gate_callee (f := 9) rfl ?_); refine goesL_ (some 10) rfl rfl Try.func9 (by kernel_rfl) rfl #[.string (⟨#[32, 97, 98, 95, 32, 49, 50, 32, 46, 32, 120, 32]⟩ : ByteArray)] rfl (by (try simp only [List.map_toArray, List.map_cons, List.map_nil]); first | done | rfl | (simp only [List.length_drop, List.length_take]; rfl)) ?_; (with_reducible refine (goods_Clean.calls (⟨#[32, 97, 98, 95, 32, 49, 50, 32, 46, 32, 120, 32]⟩ : ByteArray) t150 t151 _ A3.out).mono ?_); rintro e w5 ⟨rfl, hb⟩; refine ⟨_, rfl, ?_⟩; have n0_ := Aside0.mk (below_step (by repeat (first | (with_reducible first | exact HB.out | apply below_alloc | apply pw_below_drewN | apply below_drew1) | exact HB.out)) hb); clear HB; have HB := n0_; clear n0_; (try clear hb); (try clear hb2); (try clear hk); (try clear hi)))
  (try simp only [Act.put, List.setIfInBounds_toArray, List.set_cons_zero, List.set_cons_succ])
  go_cut [18] (fun v18 wc => ∃ (kq : Nat) (x18_3 : Bool), v18 = .bool x18_3 ∧ Aside0 (barrowlaw02_GoodsCleansOnce.j0 kq a0 l1 x18_3 = some r) ∧ Aside0 (kq ≤ k) ∧ Aside0 (Below w.heap.size w wc))
  case first =>
    have H := HC4.out
    clear HC4
    by_cases c6 : t150.toList = ([65, 66, 45, 49, 50, 46, 88] : List UInt8)
    · rw [if_pos c6] at H
      have c6b0 : (t150.toList == ([65, 66, 45, 49, 50, 46, 88] : List UInt8)) = true := beq_iff_eq.mpr c6
      have c6b1 : (t150.toList != ([65, 66, 45, 49, 50, 46, 88] : List UInt8)) = false := bne_eq_false_iff_eq.mpr c6
      clear c6
      (first | rw [c6b0] | (simp only [i64_w, i32_w]; rw [c6b0]) | skip)
      have H' := Aside0.mk H
      clear H
      go_wp2
      go_meet
      case rel => exact ⟨_, ((t151 != 0)), (by first | rfl | (simp; done) | (simp [*]; done)), H', ⟨by first | omega | exact Nat.le_refl _⟩, ⟨by repeat (first | (with_reducible first | exact HB.out | apply below_alloc | apply pw_below_drewN | apply below_drew1) | exact HB.out)⟩⟩
    · rw [if_neg c6] at H
      have c6b0 : (t150.toList == ([65, 66, 45, 49, 50, 46, 88] : List UInt8)) = false := beq_eq_false_iff_ne.mpr c6
      have c6b1 : (t150.toList != ([65, 66, 45, 49, 50, 46, 88] : List UInt8)) = true := bne_iff_ne.mpr c6
      (first | rw [c6b0] | (simp only [i64_w, i32_w]; rw [c6b0]) | skip)
      have H' := Aside0.mk H
      clear H
      go_wp2
      go_meet
      case rel => exact ⟨_, (true), (by first | rfl | (simp; done) | (simp [*]; done)), H', ⟨by first | omega | exact Nat.le_refl _⟩, ⟨by repeat (first | (with_reducible first | exact HB.out | apply below_alloc | apply pw_below_drewN | apply below_drew1) | exact HB.out)⟩⟩
  case rest =>
    clear HC4
    try clear c1
    try clear p2
    try clear c4
    try clear c6
    try clear c6b0
    try clear c6b1
    obtain ⟨kq, x18_3, rfl, HA, HJ3, HB⟩ := hcut
    cases kq with
    | zero => exact absurd HA.out (by simp [barrowlaw02_GoodsCleansOnce.j0])
    | succ kj3 =>
      have H := HA.out
      clear HA
      simp only [barrowlaw02_GoodsCleansOnce.j0] at H
      by_cases c7 : x18_3 = true
      · subst c7
        have H1 : (some false) = some r := by rw [if_pos rfl] at H; exact H
        clear H
        have H := H1
        clear H1
        obtain rfl := Option.some.inj H
        go_wp2
        go_ret
        exact ⟨by first | rfl | (simp [errW_none, errW_some] <;> rfl) | (simp [*, errW_none, errW_some] <;> rfl), by repeat (first | (with_reducible first | exact HB.out | apply below_alloc | apply pw_below_drewN | apply below_drew1) | exact HB.out)⟩
      · replace c7 := Bool.eq_false_iff.mpr c7
        subst c7
        have H1 : ((goods_Clean.f a0).bind fun bt152 => (if bt152.2 = 0 then (barrowlaw02_GoodsCleansOnce.j1 kj3 l1 bt152.1) else (if bt152.1.toList = ([] : List UInt8) then (barrowlaw02_GoodsCleansOnce.j1 kj3 l1 (⟨#[65, 66, 45, 49, 50, 46, 88]⟩ : ByteArray)) else (some false)))) = some r := by rw [if_neg (show ¬ (false = true) by decide)] at H; exact H
        clear H
        have H := H1
        clear H1
        replace H := Option.bind_eq_some_iff.mp H
        obtain ⟨⟨t152, t153⟩, A80, H⟩ := H
        replace H : (if t153 = 0 then (barrowlaw02_GoodsCleansOnce.j1 kj3 l1 t152) else (if t152.toList = ([] : List UInt8) then (barrowlaw02_GoodsCleansOnce.j1 kj3 l1 (⟨#[65, 66, 45, 49, 50, 46, 88]⟩ : ByteArray)) else (some false))) = some r := H
        have A8 := Aside0.mk A80
        clear A80
        have HC9 := Aside0.mk H
        clear H
        go_upto_if 25 with (first | ((with_reducible refine gate_callee (f := 9) rfl ?_); refine goesL_ (some 21) rfl rfl Try.func9 (by kernel_rfl) rfl #[.string a0] rfl (by (try simp only [List.map_toArray, List.map_cons, List.map_nil]); first | done | rfl | (simp only [List.length_drop, List.length_take]; rfl)) ?_; (with_reducible refine (goods_Clean.calls a0 t152 t153 _ A8.out).mono ?_); rintro e w10 ⟨rfl, hb⟩; refine ⟨_, rfl, ?_⟩; have n0_ := Aside0.mk (below_step (by repeat (first | (with_reducible first | exact HB.out | apply below_alloc | apply pw_below_drewN | apply below_drew1) | exact HB.out)) hb); clear HB; have HB := n0_; clear n0_; (try clear hb); (try clear hb2); (try clear hk); (try clear hi)))
        (try simp only [Act.put, List.setIfInBounds_toArray, List.set_cons_zero, List.set_cons_succ])
        go_cut [5] (fun v5 wc => ∃ (kq : Nat) (x5_8 : ByteArray), v5 = .string x5_8 ∧ Aside0 (barrowlaw02_GoodsCleansOnce.j1 kq l1 x5_8 = some r) ∧ Aside0 (kq ≤ kj3) ∧ Aside0 (Below w.heap.size w wc))
        case first =>
          have H := HC9.out
          clear HC9
          by_cases c11 : t153 = 0
          · rw [if_pos c11] at H
            have c11b0 : (t153 == 0) = true := beq_iff_eq.mpr c11
            have c11b1 : (t153 != 0) = false := bne_eq_false_iff_eq.mpr c11
            clear c11
            (first | rw [c11b0] | (simp only [i64_w, i32_w]; rw [c11b0]) | skip)
            have H' := Aside0.mk H
            clear H
            go_wp2
            go_meet
            case rel => exact ⟨_, (t152), (by first | rfl | (simp; done) | (simp [*]; done)), H', ⟨by have := HJ3.out; first | omega | exact Nat.le_refl _⟩, ⟨by repeat (first | (with_reducible first | exact HB.out | apply below_alloc | apply pw_below_drewN | apply below_drew1) | exact HB.out)⟩⟩
          · rw [if_neg c11] at H
            have c11b0 : (t153 == 0) = false := beq_eq_false_iff_ne.mpr c11
            have c11b1 : (t153 != 0) = true := bne_iff_ne.mpr c11
            (first | rw [c11b0] | (simp only [i64_w, i32_w]; rw [c11b0]) | skip)
            by_cases c12 : t152.toList = ([] : List UInt8)
            · rw [if_pos c12] at H
              have c12b0 : (t152.toList == ([] : List UInt8)) = true := beq_iff_eq.mpr c12
              have c12b1 : (t152.toList != ([] : List UInt8)) = false := bne_eq_false_iff_eq.mpr c12
              clear c12
              have H' := Aside0.mk H
              clear H
              go_wp2
              go_meet
              case rel => exact ⟨_, ((⟨#[65, 66, 45, 49, 50, 46, 88]⟩ : ByteArray)), (by first | rfl | (simp; done) | (simp [*]; done)), H', ⟨by have := HJ3.out; first | omega | exact Nat.le_refl _⟩, ⟨by repeat (first | (with_reducible first | exact HB.out | apply below_alloc | apply pw_below_drewN | apply below_drew1) | exact HB.out)⟩⟩
            · rw [if_neg c12] at H
              have c12b0 : (t152.toList == ([] : List UInt8)) = false := beq_eq_false_iff_ne.mpr c12
              have c12b1 : (t152.toList != ([] : List UInt8)) = true := bne_iff_ne.mpr c12
              obtain rfl := Option.some.inj H
              go_wp2
              go_ret
              exact ⟨by first | rfl | (simp [errW_none, errW_some] <;> rfl) | (simp [*, errW_none, errW_some] <;> rfl), by repeat (first | (with_reducible first | exact HB.out | apply below_alloc | apply pw_below_drewN | apply below_drew1) | exact HB.out)⟩
        case rest =>
          clear HC9
          try clear c1
          try clear p2
          try clear c4
          try clear c6
          try clear c6b0
          try clear c6b1
          try clear c7
          try clear c9
          try clear c11
          try clear c11b0
          try clear c11b1
          try clear c12
          try clear c12b0
          try clear c12b1
          try clear p2
          obtain ⟨kq, x5_8, rfl, HA, HJ8, HB⟩ := hcut
          cases kq with
          | zero => exact absurd HA.out (by simp [barrowlaw02_GoodsCleansOnce.j1])
          | succ kj8 =>
            have H := HA.out
            clear HA
            simp only [barrowlaw02_GoodsCleansOnce.j1] at H
            replace H := Option.bind_eq_some_iff.mp H
            obtain ⟨t154, A130, H⟩ := H
            replace H : (if t154 = true then ((goods_Clean.f x5_8).bind fun bt155 => (if bt155.1.toList = x5_8.toList then (barrowlaw02_GoodsCleansOnce.j2 kj8 l1 x5_8 (bt155.2 != 0)) else (barrowlaw02_GoodsCleansOnce.j2 kj8 l1 x5_8 true))) else (some false)) = some r := H
            have A13 := Aside0.mk A130
            clear A130
            by_cases c14 : t154 = true
            · subst c14
              have H1 : ((goods_Clean.f x5_8).bind fun bt155 => (if bt155.1.toList = x5_8.toList then (barrowlaw02_GoodsCleansOnce.j2 kj8 l1 x5_8 (bt155.2 != 0)) else (barrowlaw02_GoodsCleansOnce.j2 kj8 l1 x5_8 true))) = some r := by rw [if_pos rfl] at H; exact H
              clear H
              have H := H1
              clear H1
              replace H := Option.bind_eq_some_iff.mp H
              obtain ⟨⟨t155, t156⟩, A150, H⟩ := H
              replace H : (if t155.toList = x5_8.toList then (barrowlaw02_GoodsCleansOnce.j2 kj8 l1 x5_8 (t156 != 0)) else (barrowlaw02_GoodsCleansOnce.j2 kj8 l1 x5_8 true)) = some r := H
              have A15 := Aside0.mk A150
              clear A150
              have HC16 := Aside0.mk H
              clear H
              go_upto_region 12 with (first | ((with_reducible refine gate_callee (f := 10) rfl ?_); refine goesL_ (some 29) rfl rfl Try.func10 (by kernel_rfl) rfl #[.string x5_8] rfl (by (try simp only [List.map_toArray, List.map_cons, List.map_nil]); first | done | rfl | (simp only [List.length_drop, List.length_take]; rfl)) ?_; (with_reducible refine (goods_Good.calls kj8 x5_8 true _ A13.out).mono ?_); rintro e w' ⟨rfl, ⟨nd, rfl⟩⟩; refine ⟨_, rfl, ?_⟩) | ((with_reducible refine gate_callee (f := 9) rfl ?_); refine goesL_ (some 33) rfl rfl Try.func9 (by kernel_rfl) rfl #[.string x5_8] rfl (by (try simp only [List.map_toArray, List.map_cons, List.map_nil]); first | done | rfl | (simp only [List.length_drop, List.length_take]; rfl)) ?_; (with_reducible refine (goods_Clean.calls x5_8 t155 t156 _ A15.out).mono ?_); rintro e w17 ⟨rfl, hb⟩; refine ⟨_, rfl, ?_⟩; have n0_ := Aside0.mk (below_step (by repeat (first | (with_reducible first | exact HB.out | apply below_alloc | apply pw_below_drewN | apply below_drew1) | exact HB.out)) hb); clear HB; have HB := n0_; clear n0_; (try clear hb); (try clear hb2); (try clear hk); (try clear hi)))
              (try simp only [Act.put, List.setIfInBounds_toArray, List.set_cons_zero, List.set_cons_succ])
              go_cut [42] (fun v42 wc => ∃ (kq : Nat) (x42_15 : Bool), v42 = .bool x42_15 ∧ Aside0 (barrowlaw02_GoodsCleansOnce.j2 kq l1 x5_8 x42_15 = some r) ∧ Aside0 (kq ≤ kj8) ∧ Aside0 (Below w.heap.size w wc))
              case first =>
                have H := HC16.out
                clear HC16
                by_cases c18 : t155.toList = x5_8.toList
                · rw [if_pos c18] at H
                  have c18b0 : (t155.toList == x5_8.toList) = true := beq_iff_eq.mpr c18
                  have c18b1 : (t155.toList != x5_8.toList) = false := bne_eq_false_iff_eq.mpr c18
                  clear c18
                  (first | rw [c18b0] | (simp only [i64_w, i32_w]; rw [c18b0]) | skip)
                  have H' := Aside0.mk H
                  clear H
                  go_wp2
                  go_meet
                  case rel => exact ⟨_, ((t156 != 0)), (by first | rfl | (simp; done) | (simp [*]; done)), H', ⟨by have := HJ3.out; have := HJ8.out; first | omega | exact Nat.le_refl _⟩, ⟨by repeat (first | (with_reducible first | exact HB.out | apply below_alloc | apply pw_below_drewN | apply below_drew1) | exact HB.out)⟩⟩
                · rw [if_neg c18] at H
                  have c18b0 : (t155.toList == x5_8.toList) = false := beq_eq_false_iff_ne.mpr c18
                  have c18b1 : (t155.toList != x5_8.toList) = true := bne_iff_ne.mpr c18
                  (first | rw [c18b0] | (simp only [i64_w, i32_w]; rw [c18b0]) | skip)
                  have H' := Aside0.mk H
                  clear H
                  go_wp2
                  go_meet
                  case rel => exact ⟨_, (true), (by first | rfl | (simp; done) | (simp [*]; done)), H', ⟨by have := HJ3.out; have := HJ8.out; first | omega | exact Nat.le_refl _⟩, ⟨by repeat (first | (with_reducible first | exact HB.out | apply below_alloc | apply pw_below_drewN | apply below_drew1) | exact HB.out)⟩⟩
              case rest =>
                clear HC16
                try clear c1
                try clear p2
                try clear c4
                try clear c6
                try clear c6b0
                try clear c6b1
                try clear c7
                try clear c9
                try clear c10
                try clear c11
                try clear c11b0
                try clear c11b1
                try clear c12
                try clear c12b0
                try clear c12b1
                try clear c14
                try clear c18
                try clear c18b0
                try clear c18b1
                try clear p2
                obtain ⟨kq, x42_15, rfl, HA, HJ15, HB⟩ := hcut
                cases kq with
                | zero => exact absurd HA.out (by simp [barrowlaw02_GoodsCleansOnce.j2])
                | succ kj15 =>
                  have H := HA.out
                  clear HA
                  simp only [barrowlaw02_GoodsCleansOnce.j2] at H
                  by_cases c19 : x42_15 = true
                  · subst c19
                    have H1 : (some false) = some r := by rw [if_pos rfl] at H; exact H
                    clear H
                    have H := H1
                    clear H1
                    obtain rfl := Option.some.inj H
                    go_wp2
                    go_ret
                    exact ⟨by first | rfl | (simp [errW_none, errW_some] <;> rfl) | (simp [*, errW_none, errW_some] <;> rfl), by repeat (first | (with_reducible first | exact HB.out | apply below_alloc | apply pw_below_drewN | apply below_drew1) | exact HB.out)⟩
                  · replace c19 := Bool.eq_false_iff.mpr c19
                    subst c19
                    have H1 : ((barrowlaw02_typed.f kj15 x5_8 l1).bind fun t157 => ((goods_Clean.f t157).bind fun bt158 => (if bt158.1.toList = x5_8.toList then (some (bt158.2 == 0)) else (some false)))) = some r := by rw [if_neg (show ¬ (false = true) by decide)] at H; exact H
                    clear H
                    have H := H1
                    clear H1
                    replace H := Option.bind_eq_some_iff.mp H
                    obtain ⟨t157, A200, H⟩ := H
                    replace H : ((goods_Clean.f t157).bind fun bt158 => (if bt158.1.toList = x5_8.toList then (some (bt158.2 == 0)) else (some false))) = some r := H
                    have A20 := Aside0.mk A200
                    clear A200
                    replace H := Option.bind_eq_some_iff.mp H
                    obtain ⟨⟨t158, t159⟩, A210, H⟩ := H
                    replace H : (if t158.toList = x5_8.toList then (some (t159 == 0)) else (some false)) = some r := H
                    have A21 := Aside0.mk A210
                    clear A210
                    by_cases c22 : t158.toList = x5_8.toList
                    · rw [if_pos c22] at H
                      have c22b0 : (t158.toList == x5_8.toList) = true := beq_iff_eq.mpr c22
                      have c22b1 : (t158.toList != x5_8.toList) = false := bne_eq_false_iff_eq.mpr c22
                      clear c22
                      obtain rfl := Option.some.inj H
                      go_wp2_with (first | ((with_reducible refine gate_callee (f := 11) rfl ?_); refine goesL_ (some 46) rfl rfl Try.func11 (by kernel_rfl) rfl #[.string x5_8, .slice A1 l1.length c1] rfl (by (try simp only [List.map_toArray, List.map_cons, List.map_nil]); first | done | rfl | (simp only [List.length_drop, List.length_take]; rfl)) ?_; (with_reducible refine (barrowlaw02_typed.calls kj15 x5_8 _ _ l1 t157 _ ?side1 ?side2 A20.out).mono ?_); (case side1 => repeat (first | exact (Kd.C_below HR1.out HB.out) | (with_reducible refine Kd.C_alloc ?_ _) | (with_reducible refine Kd.C_drewN ?_ _) | (with_reducible refine Kd.C_drew ?_))); (case side2 => exact HC1.out); rintro e w23 ⟨rfl, hb⟩; refine ⟨_, rfl, ?_⟩; have n0_ := Aside0.mk (below_step (by repeat (first | (with_reducible first | exact HB.out | apply below_alloc | apply pw_below_drewN | apply below_drew1) | exact HB.out)) hb); clear HB; have HB := n0_; clear n0_; (try clear hb); (try clear hb2); (try clear hk); (try clear hi)) | ((with_reducible refine gate_callee (f := 9) rfl ?_); refine goesL_ (some 47) rfl rfl Try.func9 (by kernel_rfl) rfl #[.string t157] rfl (by (try simp only [List.map_toArray, List.map_cons, List.map_nil]); first | done | rfl | (simp only [List.length_drop, List.length_take]; rfl)) ?_; (with_reducible refine (goods_Clean.calls t157 t158 t159 _ A21.out).mono ?_); rintro e w24 ⟨rfl, hb⟩; refine ⟨_, rfl, ?_⟩; have n0_ := Aside0.mk (below_step (by repeat (first | (with_reducible first | exact HB.out | apply below_alloc | apply pw_below_drewN | apply below_drew1) | exact HB.out)) hb); clear HB; have HB := n0_; clear n0_; (try clear hb); (try clear hb2); (try clear hk); (try clear hi)))
                      go_ret
                      exact ⟨by first | rfl | (simp [errW_none, errW_some] <;> rfl) | (simp [*, errW_none, errW_some] <;> rfl), by repeat (first | (with_reducible first | exact HB.out | apply below_alloc | apply pw_below_drewN | apply below_drew1) | exact HB.out)⟩
                    · rw [if_neg c22] at H
                      have c22b0 : (t158.toList == x5_8.toList) = false := beq_eq_false_iff_ne.mpr c22
                      have c22b1 : (t158.toList != x5_8.toList) = true := bne_iff_ne.mpr c22
                      obtain rfl := Option.some.inj H
                      go_wp2_with (first | ((with_reducible refine gate_callee (f := 11) rfl ?_); refine goesL_ (some 46) rfl rfl Try.func11 (by kernel_rfl) rfl #[.string x5_8, .slice A1 l1.length c1] rfl (by (try simp only [List.map_toArray, List.map_cons, List.map_nil]); first | done | rfl | (simp only [List.length_drop, List.length_take]; rfl)) ?_; (with_reducible refine (barrowlaw02_typed.calls kj15 x5_8 _ _ l1 t157 _ ?side1 ?side2 A20.out).mono ?_); (case side1 => repeat (first | exact (Kd.C_below HR1.out HB.out) | (with_reducible refine Kd.C_alloc ?_ _) | (with_reducible refine Kd.C_drewN ?_ _) | (with_reducible refine Kd.C_drew ?_))); (case side2 => exact HC1.out); rintro e w25 ⟨rfl, hb⟩; refine ⟨_, rfl, ?_⟩; have n0_ := Aside0.mk (below_step (by repeat (first | (with_reducible first | exact HB.out | apply below_alloc | apply pw_below_drewN | apply below_drew1) | exact HB.out)) hb); clear HB; have HB := n0_; clear n0_; (try clear hb); (try clear hb2); (try clear hk); (try clear hi)) | ((with_reducible refine gate_callee (f := 9) rfl ?_); refine goesL_ (some 47) rfl rfl Try.func9 (by kernel_rfl) rfl #[.string t157] rfl (by (try simp only [List.map_toArray, List.map_cons, List.map_nil]); first | done | rfl | (simp only [List.length_drop, List.length_take]; rfl)) ?_; (with_reducible refine (goods_Clean.calls t157 t158 t159 _ A21.out).mono ?_); rintro e w26 ⟨rfl, hb⟩; refine ⟨_, rfl, ?_⟩; have n0_ := Aside0.mk (below_step (by repeat (first | (with_reducible first | exact HB.out | apply below_alloc | apply pw_below_drewN | apply below_drew1) | exact HB.out)) hb); clear HB; have HB := n0_; clear n0_; (try clear hb); (try clear hb2); (try clear hk); (try clear hi)))
                      go_ret
                      exact ⟨by first | rfl | (simp [errW_none, errW_some] <;> rfl) | (simp [*, errW_none, errW_some] <;> rfl), by repeat (first | (with_reducible first | exact HB.out | apply below_alloc | apply pw_below_drewN | apply below_drew1) | exact HB.out)⟩
            · replace c14 := Bool.eq_false_iff.mpr c14
              subst c14
              have H1 : (some false) = some r := by rw [if_neg (show ¬ (false = true) by decide)] at H; exact H
              clear H
              have H := H1
              clear H1
              obtain rfl := Option.some.inj H
              go_wp2_with (first | ((with_reducible refine gate_callee (f := 10) rfl ?_); refine goesL_ (some 29) rfl rfl Try.func10 (by kernel_rfl) rfl #[.string x5_8] rfl (by (try simp only [List.map_toArray, List.map_cons, List.map_nil]); first | done | rfl | (simp only [List.length_drop, List.length_take]; rfl)) ?_; (with_reducible refine (goods_Good.calls kj8 x5_8 false _ A13.out).mono ?_); rintro e w' ⟨rfl, ⟨nd, rfl⟩⟩; refine ⟨_, rfl, ?_⟩))
              go_ret
              exact ⟨by first | rfl | (simp [errW_none, errW_some] <;> rfl) | (simp [*, errW_none, errW_some] <;> rfl), by repeat (first | (with_reducible first | exact HB.out | apply below_alloc | apply pw_below_drewN | apply below_drew1) | exact HB.out)⟩

/-- THE ONE PURE STATEMENT of barrowlaw02_GoodsCleansOnce: yours. -/
def barrowlaw02_GoodsCleansOnce.Pure : Prop := ∀ (a0 : ByteArray) (l1 : List Int), a0.size ≤ 140737488351232 → l1.length ≤ maxLen → l1.length * 8 ≤ 140737488351232 → (∀ x ∈ l1, (Lit.int .i64 x).wf = true) → ∃ k, barrowlaw02_GoodsCleansOnce.f k a0 l1 = some true
theorem barrowlaw02_GoodsCleansOnce.walk (P : barrowlaw02_GoodsCleansOnce.Pure) (a0 : ByteArray) (a1 : Option Addr) (len1 cap1 : Nat) (z1 : List Int) (w : World) (w0 : a0.size ≤ 140737488351232) (w1 : (a1 = none ∧ len1 = 0 ∧ cap1 = 0 ∧ z1 = []) ∨ ∃ x, a1 = some x ∧ len1 ≤ cap1 ∧ cap1 ≤ maxLen ∧ z1.length = cap1 ∧ (∀ i, i < z1.length → w.cell? (x.add i) = some (.int .i64 (z1.getD i 0))) ∧ ∀ n ∈ z1, (Lit.int .i64 n).wf = true) (y1 : len1 * 8 ≤ 140737488351232) :
    Calls Try.prog 4 #[.string a0, .slice a1 len1 cap1] w fun e w' => e = .returned (.bool true) ∧ Below w.heap.size w w' := by
  obtain ⟨l1, rfl, hr1, hm1, hw1, hc1⟩ := ReadsInt.ofRowC w1
  obtain ⟨k, h⟩ := P a0 l1 w0 hm1 y1 hw1
  refine (barrowlaw02_GoodsCleansOnce.calls k a0 _ _ l1 true w (Kd.C_of_reads (d := (0 : Int)) (h1 := fun _ => rfl) hr1) hc1 h).mono ?_
  rintro e w' ⟨rfl, hd⟩
  exact ⟨rfl, hd⟩

end Go.Proofs.Ytmicghhmbojkfaa.G
