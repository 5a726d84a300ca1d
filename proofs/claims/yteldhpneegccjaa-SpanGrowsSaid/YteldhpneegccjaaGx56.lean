-- PRINTED by print.py (a twelfth state) out of the translation. Not trusted: Lean checks it.
import Derived.Test.YteldhpneegccjaaGx0
import Derived.Test.YteldhpneegccjaaGx24
import Derived.Test.YteldhpneegccjaaGx43
import Derived.Test.YteldhpneegccjaaGx46
import Derived.Test.YteldhpneegccjaaHas
namespace Go.Proofs.Yteldhpneegccjaa.G
open Go.RowKit Go.Proofs.YteldhpneegccjaaW.PrintWords Go.Proofs.YteldhpneegccjaaW.PrintLast Go.Proofs.YteldhpneegccjaaW.PrintMore
attribute [local go_sem] max2_int min2_int max_two min_two max_three min_three max_four min_four   -- for this text's walks alone
set_option linter.unusedVariables false
set_option linter.unusedSimpArgs false

/-! ### barrowlaw01_SpanGrows: function 15 -/
mutual
def barrowlaw01_SpanGrows.j0 : Nat → List Int → Bool → Option (Bool)
  | 0, _, _ => none
  | k + 1, x0, x25 => if x25 = true then (some false) else (barrowlaw01_SpanGrows.l0 k x0 ([] : List (S26)) 0 0)
def barrowlaw01_SpanGrows.l0 : Nat → List Int → List (S26) → Int → Int → Option (Bool)
  | 0, _, _, _, _ => none
  | k + 1, x0, x3, x5, x6 => if x6 < (x0.length : Int) then (if 0 ≤ x6 then ((span_Has.f x3 (rd x0 x6)).bind fun t694 => ((span_Put.f k x3 (rd x0 x6)).bind fun bt695 => (if (rd x0 x6) < 1 then (barrowlaw01_SpanGrows.j2 k x0 x3 x5 x6 (rd x0 x6) t694 bt695.1 bt695.2 true) else (barrowlaw01_SpanGrows.j2 k x0 x3 x5 x6 (rd x0 x6) t694 bt695.1 bt695.2 (decide ((rd x0 x6) > 1000000000)))))) else (none)) else (barrowlaw01_SpanGrows.l1 k x0 x3 0)
def barrowlaw01_SpanGrows.j2 : Nat → List Int → List (S26) → Int → Int → Int → Bool → List (S26) → Int → Bool → Option (Bool)
  | 0, _, _, _, _, _, _, _, _, _ => none
  | k + 1, x0, x3, x5, x6, x7, x8, x9, x10, x50 => if x50 = true then (if x10 = 2 then (if (x9.length : Int) = 0 then (barrowlaw01_SpanGrows.l0 k x0 x3 x5 (wrap64 (x6 + 1))) else (some false)) else (some false)) else (if x10 = 0 then ((span_Has.f x9 x7).bind fun t699 => (barrowlaw01_SpanGrows.j3 k x0 x5 x6 x8 x9 (!t699))) else (barrowlaw01_SpanGrows.j3 k x0 x5 x6 x8 x9 true))
def barrowlaw01_SpanGrows.j3 : Nat → List Int → Int → Int → Bool → List (S26) → Bool → Option (Bool)
  | 0, _, _, _, _, _, _ => none
  | k + 1, x0, x5, x6, x8, x9, x65 => if x65 = true then (some false) else (if x8 = true then ((span_Size.f k x9).bind fun t700 => (if t700 = x5 then (barrowlaw01_SpanGrows.l0 k x0 x9 x5 (wrap64 (x6 + 1))) else (some false))) else ((span_Size.f k x9).bind fun t701 => (if t701 = (wrap64 (x5 + 1)) then (barrowlaw01_SpanGrows.l0 k x0 x9 (wrap64 (x5 + 1)) (wrap64 (x6 + 1))) else (some false))))
def barrowlaw01_SpanGrows.l1 : Nat → List Int → List (S26) → Int → Option (Bool)
  | 0, _, _, _ => none
  | k + 1, x0, x3, x11 => if x11 < (x0.length : Int) then (if 0 ≤ x11 then (if (rd x0 x11) < 1 then (barrowlaw01_SpanGrows.j5 k x0 x3 x11 (rd x0 x11) true) else (barrowlaw01_SpanGrows.j5 k x0 x3 x11 (rd x0 x11) (decide ((rd x0 x11) > 1000000000)))) else (none)) else (some ((x3.length : Int) == 0))
def barrowlaw01_SpanGrows.j5 : Nat → List Int → List (S26) → Int → Int → Bool → Option (Bool)
  | 0, _, _, _, _, _ => none
  | k + 1, x0, x3, x11, x12, x90 => if x90 = true then (barrowlaw01_SpanGrows.l1 k x0 x3 (wrap64 (x11 + 1))) else ((span_Drop.f k x3 x12).bind fun bt703 => (if bt703.2 = 0 then ((span_Has.f bt703.1 x12).bind fun t707 => (if t707 = true then (some false) else (barrowlaw01_SpanGrows.l1 k x0 bt703.1 (wrap64 (x11 + 1))))) else (some false)))
end
def barrowlaw01_SpanGrows.f (k : Nat) (l0 : List Int) : Option (Bool) := (span_Put.f k ([] : List (S26)) 3).bind fun bt688 => (if bt688.2 = 0 then ((span_Size.f k bt688.1).bind fun t692 => (barrowlaw01_SpanGrows.j0 k l0 (t692 != 1))) else (barrowlaw01_SpanGrows.j0 k l0 true))
theorem barrowlaw01_SpanGrows.mono_l : ∀ k, (∀ y0 y1, LeO (barrowlaw01_SpanGrows.j0 k y0 y1) (barrowlaw01_SpanGrows.j0 (k + 1) y0 y1)) ∧ (∀ y0 y1 y2 y3, LeO (barrowlaw01_SpanGrows.l0 k y0 y1 y2 y3) (barrowlaw01_SpanGrows.l0 (k + 1) y0 y1 y2 y3)) ∧ (∀ y0 y1 y2 y3 y4 y5 y6 y7 y8, LeO (barrowlaw01_SpanGrows.j2 k y0 y1 y2 y3 y4 y5 y6 y7 y8) (barrowlaw01_SpanGrows.j2 (k + 1) y0 y1 y2 y3 y4 y5 y6 y7 y8)) ∧ (∀ y0 y1 y2 y3 y4 y5, LeO (barrowlaw01_SpanGrows.j3 k y0 y1 y2 y3 y4 y5) (barrowlaw01_SpanGrows.j3 (k + 1) y0 y1 y2 y3 y4 y5)) ∧ (∀ y0 y1 y2, LeO (barrowlaw01_SpanGrows.l1 k y0 y1 y2) (barrowlaw01_SpanGrows.l1 (k + 1) y0 y1 y2)) ∧ (∀ y0 y1 y2 y3 y4, LeO (barrowlaw01_SpanGrows.j5 k y0 y1 y2 y3 y4) (barrowlaw01_SpanGrows.j5 (k + 1) y0 y1 y2 y3 y4))
  | 0 => ⟨fun _ _ r h => by simp [barrowlaw01_SpanGrows.j0] at h, fun _ _ _ _ r h => by simp [barrowlaw01_SpanGrows.l0] at h, fun _ _ _ _ _ _ _ _ _ r h => by simp [barrowlaw01_SpanGrows.j2] at h, fun _ _ _ _ _ _ r h => by simp [barrowlaw01_SpanGrows.j3] at h, fun _ _ _ r h => by simp [barrowlaw01_SpanGrows.l1] at h, fun _ _ _ _ _ r h => by simp [barrowlaw01_SpanGrows.j5] at h⟩
  | k + 1 => by
    obtain ⟨ih0, ih1, ih2, ih3, ih4, ih5⟩ := barrowlaw01_SpanGrows.mono_l k
    refine ⟨?_, ?_, ?_, ?_, ?_, ?_⟩
    · intro y0 y1
      unfold barrowlaw01_SpanGrows.j0
      repeat' first
      | (with_reducible exact ih0 _ _)
      | (with_reducible exact ih1 _ _ _ _)
      | (with_reducible exact ih2 _ _ _ _ _ _ _ _ _)
      | (with_reducible exact ih3 _ _ _ _ _ _)
      | (with_reducible exact ih4 _ _ _)
      | (with_reducible exact ih5 _ _ _ _ _)
      | (with_reducible exact span_Drop.mono _ _ _)
      | (with_reducible exact span_Put.mono _ _ _)
      | (with_reducible exact span_Size.mono _ _)
      | (with_reducible exact LeO.refl _)
      | (with_reducible exact LeO.none _)
      | (with_reducible refine LeO.ite ?_ ?_)
      | (with_reducible refine LeO.bind ?_ (fun _ => ?_))
      | exact ih0 _ _
      | exact ih1 _ _ _ _
      | exact ih2 _ _ _ _ _ _ _ _ _
      | exact ih3 _ _ _ _ _ _
      | exact ih4 _ _ _
      | exact ih5 _ _ _ _ _
      | exact span_Drop.mono _ _ _
      | exact span_Put.mono _ _ _
      | exact span_Size.mono _ _
      | exact LeO.none _
      | refine LeO.ite ?_ ?_
      | refine LeO.bind ?_ (fun _ => ?_)
    · intro y0 y1 y2 y3
      unfold barrowlaw01_SpanGrows.l0
      repeat' first
      | (with_reducible exact ih0 _ _)
      | (with_reducible exact ih1 _ _ _ _)
      | (with_reducible exact ih2 _ _ _ _ _ _ _ _ _)
      | (with_reducible exact ih3 _ _ _ _ _ _)
      | (with_reducible exact ih4 _ _ _)
      | (with_reducible exact ih5 _ _ _ _ _)
      | (with_reducible exact span_Drop.mono _ _ _)
      | (with_reducible exact span_Put.mono _ _ _)
      | (with_reducible exact span_Size.mono _ _)
      | (with_reducible exact LeO.refl _)
      | (with_reducible exact LeO.none _)
      | (with_reducible refine LeO.ite ?_ ?_)
      | (with_reducible refine LeO.bind ?_ (fun _ => ?_))
      | exact ih0 _ _
      | exact ih1 _ _ _ _
      | exact ih2 _ _ _ _ _ _ _ _ _
      | exact ih3 _ _ _ _ _ _
      | exact ih4 _ _ _
      | exact ih5 _ _ _ _ _
      | exact span_Drop.mono _ _ _
      | exact span_Put.mono _ _ _
      | exact span_Size.mono _ _
      | exact LeO.none _
      | refine LeO.ite ?_ ?_
      | refine LeO.bind ?_ (fun _ => ?_)
    · intro y0 y1 y2 y3 y4 y5 y6 y7 y8
      unfold barrowlaw01_SpanGrows.j2
      repeat' first
      | (with_reducible exact ih0 _ _)
      | (with_reducible exact ih1 _ _ _ _)
      | (with_reducible exact ih2 _ _ _ _ _ _ _ _ _)
      | (with_reducible exact ih3 _ _ _ _ _ _)
      | (with_reducible exact ih4 _ _ _)
      | (with_reducible exact ih5 _ _ _ _ _)
      | (with_reducible exact span_Drop.mono _ _ _)
      | (with_reducible exact span_Put.mono _ _ _)
      | (with_reducible exact span_Size.mono _ _)
      | (with_reducible exact LeO.refl _)
      | (with_reducible exact LeO.none _)
      | (with_reducible refine LeO.ite ?_ ?_)
      | (with_reducible refine LeO.bind ?_ (fun _ => ?_))
      | exact ih0 _ _
      | exact ih1 _ _ _ _
      | exact ih2 _ _ _ _ _ _ _ _ _
      | exact ih3 _ _ _ _ _ _
      | exact ih4 _ _ _
      | exact ih5 _ _ _ _ _
      | exact span_Drop.mono _ _ _
      | exact span_Put.mono _ _ _
      | exact span_Size.mono _ _
      | exact LeO.none _
      | refine LeO.ite ?_ ?_
      | refine LeO.bind ?_ (fun _ => ?_)
    · intro y0 y1 y2 y3 y4 y5
      unfold barrowlaw01_SpanGrows.j3
      repeat' first
      | (with_reducible exact ih0 _ _)
      | (with_reducible exact ih1 _ _ _ _)
      | (with_reducible exact ih2 _ _ _ _ _ _ _ _ _)
      | (with_reducible exact ih3 _ _ _ _ _ _)
      | (with_reducible exact ih4 _ _ _)
      | (with_reducible exact ih5 _ _ _ _ _)
      | (with_reducible exact span_Drop.mono _ _ _)
      | (with_reducible exact span_Put.mono _ _ _)
      | (with_reducible exact span_Size.mono _ _)
      | (with_reducible exact LeO.refl _)
      | (with_reducible exact LeO.none _)
      | (with_reducible refine LeO.ite ?_ ?_)
      | (with_reducible refine LeO.bind ?_ (fun _ => ?_))
      | exact ih0 _ _
      | exact ih1 _ _ _ _
      | exact ih2 _ _ _ _ _ _ _ _ _
      | exact ih3 _ _ _ _ _ _
      | exact ih4 _ _ _
      | exact ih5 _ _ _ _ _
      | exact span_Drop.mono _ _ _
      | exact span_Put.mono _ _ _
      | exact span_Size.mono _ _
      | exact LeO.none _
      | refine LeO.ite ?_ ?_
      | refine LeO.bind ?_ (fun _ => ?_)
    · intro y0 y1 y2
      unfold barrowlaw01_SpanGrows.l1
      repeat' first
      | (with_reducible exact ih0 _ _)
      | (with_reducible exact ih1 _ _ _ _)
      | (with_reducible exact ih2 _ _ _ _ _ _ _ _ _)
      | (with_reducible exact ih3 _ _ _ _ _ _)
      | (with_reducible exact ih4 _ _ _)
      | (with_reducible exact ih5 _ _ _ _ _)
      | (with_reducible exact span_Drop.mono _ _ _)
      | (with_reducible exact span_Put.mono _ _ _)
      | (with_reducible exact span_Size.mono _ _)
      | (with_reducible exact LeO.refl _)
      | (with_reducible exact LeO.none _)
      | (with_reducible refine LeO.ite ?_ ?_)
      | (with_reducible refine LeO.bind ?_ (fun _ => ?_))
      | exact ih0 _ _
      | exact ih1 _ _ _ _
      | exact ih2 _ _ _ _ _ _ _ _ _
      | exact ih3 _ _ _ _ _ _
      | exact ih4 _ _ _
      | exact ih5 _ _ _ _ _
      | exact span_Drop.mono _ _ _
      | exact span_Put.mono _ _ _
      | exact span_Size.mono _ _
      | exact LeO.none _
      | refine LeO.ite ?_ ?_
      | refine LeO.bind ?_ (fun _ => ?_)
    · intro y0 y1 y2 y3 y4
      unfold barrowlaw01_SpanGrows.j5
      repeat' first
      | (with_reducible exact ih0 _ _)
      | (with_reducible exact ih1 _ _ _ _)
      | (with_reducible exact ih2 _ _ _ _ _ _ _ _ _)
      | (with_reducible exact ih3 _ _ _ _ _ _)
      | (with_reducible exact ih4 _ _ _)
      | (with_reducible exact ih5 _ _ _ _ _)
      | (with_reducible exact span_Drop.mono _ _ _)
      | (with_reducible exact span_Put.mono _ _ _)
      | (with_reducible exact span_Size.mono _ _)
      | (with_reducible exact LeO.refl _)
      | (with_reducible exact LeO.none _)
      | (with_reducible refine LeO.ite ?_ ?_)
      | (with_reducible refine LeO.bind ?_ (fun _ => ?_))
      | exact ih0 _ _
      | exact ih1 _ _ _ _
      | exact ih2 _ _ _ _ _ _ _ _ _
      | exact ih3 _ _ _ _ _ _
      | exact ih4 _ _ _
      | exact ih5 _ _ _ _ _
      | exact span_Drop.mono _ _ _
      | exact span_Put.mono _ _ _
      | exact span_Size.mono _ _
      | exact LeO.none _
      | refine LeO.ite ?_ ?_
      | refine LeO.bind ?_ (fun _ => ?_)
theorem barrowlaw01_SpanGrows.mono : ∀ a0 k, LeO (barrowlaw01_SpanGrows.f k a0) (barrowlaw01_SpanGrows.f (k + 1) a0) := by
  intro a0 k
  obtain ⟨ih0, ih1, ih2, ih3, ih4, ih5⟩ := barrowlaw01_SpanGrows.mono_l k
  unfold barrowlaw01_SpanGrows.f
  repeat' first
      | (with_reducible exact ih0 _ _)
      | (with_reducible exact ih1 _ _ _ _)
      | (with_reducible exact ih2 _ _ _ _ _ _ _ _ _)
      | (with_reducible exact ih3 _ _ _ _ _ _)
      | (with_reducible exact ih4 _ _ _)
      | (with_reducible exact ih5 _ _ _ _ _)
      | (with_reducible exact span_Drop.mono _ _ _)
      | (with_reducible exact span_Put.mono _ _ _)
      | (with_reducible exact span_Size.mono _ _)
      | (with_reducible exact LeO.refl _)
      | (with_reducible exact LeO.none _)
      | (with_reducible refine LeO.ite ?_ ?_)
      | (with_reducible refine LeO.bind ?_ (fun _ => ?_))
      | exact ih0 _ _
      | exact ih1 _ _ _ _
      | exact ih2 _ _ _ _ _ _ _ _ _
      | exact ih3 _ _ _ _ _ _
      | exact ih4 _ _ _
      | exact ih5 _ _ _ _ _
      | exact span_Drop.mono _ _ _
      | exact span_Put.mono _ _ _
      | exact span_Size.mono _ _
      | exact LeO.none _
      | refine LeO.ite ?_ ?_
      | refine LeO.bind ?_ (fun _ => ?_)
set_option maxHeartbeats 8000000 in
set_option maxRecDepth 100000 in
theorem barrowlaw01_SpanGrows.calls (k : Nat) (A0 : Option Addr) (c0 : Nat) (l0 : List Int) (r : Bool) (w : World) (hr0 : Kd.C (Kd.int .i64) w A0 l0.length l0) (hc0 : l0.length ≤ c0) (h : barrowlaw01_SpanGrows.f k l0 = some r) :
    Calls Try.prog 15 #[.slice A0 l0.length c0] w fun e w' => e = .returned (.bool r) ∧ Below w.heap.size w w' := by
  have HR0 := Aside0.mk hr0
  have HC0 := Aside0.mk hc0
  clear hr0 hc0
  have HB := Aside0.mk (Below.refl w.heap.size w)
  have H : ((span_Put.f k ([] : List (S26)) 3).bind fun bt688 => (if bt688.2 = 0 then ((span_Size.f k bt688.1).bind fun t692 => (barrowlaw01_SpanGrows.j0 k l0 (t692 != 1))) else (barrowlaw01_SpanGrows.j0 k l0 true))) = some r := h
  clear h
  replace H := Option.bind_eq_some_iff.mp H
  obtain ⟨⟨t688, t691⟩, A20, H⟩ := H
  replace H : (if t691 = 0 then ((span_Size.f k t688).bind fun t692 => (barrowlaw01_SpanGrows.j0 k l0 (t692 != 1))) else (barrowlaw01_SpanGrows.j0 k l0 true)) = some r := H
  have A2 := Aside0.mk A20
  clear A20
  have HC3 := Aside0.mk H
  clear H
  go_enter Try.func15, Try.ntmps15
  go_upto_region 2 with (first | ((with_reducible refine gate_callee (f := 49) rfl ?_); refine goesL_ (some 16) rfl rfl Try.func49 (by kernel_rfl) rfl #[.slice none 0 0, .int .i64 3] rfl (by (try simp only [List.map_toArray, List.map_cons, List.map_nil]); first | done | rfl | (simp only [List.length_drop, List.length_take]; rfl)) ?_; (refine (span_Put.calls k (fun k_ => False) _ _ ([] : List (S26)) 3 t688 t691 _ ?side1 A2.out).mono ?_); (case side1 => exact Kd.V_nil _ _ _ _ _); rintro e w4 ⟨v689, rfl, ho0, hb⟩; refine ⟨_, rfl, ?_⟩; have n0_ := Aside0.mk (Kd.R_lower (Kd.R_mono (ok' := fun k_ => True) ho0 (fun _ hk_ => trivial)) (below_size (by repeat (first | (with_reducible first | exact HB.out | apply below_alloc | apply pw_below_drewN | apply below_drew1) | exact HB.out)))); have n1_ := Aside0.mk (below_step (by repeat (first | (with_reducible first | exact HB.out | apply below_alloc | apply pw_below_drewN | apply below_drew1) | exact HB.out)) hb); clear HB; have HO690 := n0_; have HB := n1_; clear n0_ n1_; (try clear hb); (try clear hb2); (try clear hk); (try clear hi); (try clear ho0)))
  (try simp only [Act.put, List.setIfInBounds_toArray, List.set_cons_zero, List.set_cons_succ])
  go_cut [25] (fun v25 wc => ∃ (kq : Nat) (x25_2 : Bool), v25 = .bool x25_2 ∧ Aside0 (barrowlaw01_SpanGrows.j0 kq l0 x25_2 = some r) ∧ Aside0 (kq ≤ k) ∧ Aside0 (Below w.heap.size w wc))
  case first =>
    have H := HC3.out
    clear HC3
    by_cases c5 : t691 = 0
    · rw [if_pos c5] at H
      have c5b0 : (t691 == 0) = true := beq_iff_eq.mpr c5
      have c5b1 : (t691 != 0) = false := bne_eq_false_iff_eq.mpr c5
      clear c5
      (first | rw [c5b0] | (simp only [i64_w, i32_w]; rw [c5b0]) | skip)
      replace H := Option.bind_eq_some_iff.mp H
      obtain ⟨t692, A60, H⟩ := H
      replace H : (barrowlaw01_SpanGrows.j0 k l0 (t692 != 1)) = some r := H
      have A6 := Aside0.mk A60
      clear A60
      have H' := Aside0.mk H
      clear H
      obtain ⟨Ao7, co7, eo7⟩ := Kd.R_slice HO690.out
      subst eo7
      go_wp2_with (first | (go_at_call 33; (with_reducible refine (span_Size.calls k _ _ t688 t692 _ ?side1 ?side2 A6.out).mono ?_); (case side1 => repeat (first | exact (Kd.R_reads' HO690.out).2.2 | (with_reducible refine Kd.C_alloc ?_ _) | (with_reducible refine Kd.C_drewN ?_ _) | (with_reducible refine Kd.C_drew ?_))); (case side2 => exact (Kd.R_reads' HO690.out).2.1); rintro e w8 ⟨rfl, hb⟩; have n0_ := Aside0.mk (Kd.R_below (by (with_reducible repeat (first | apply Kd.R_alloc | apply Kd.R_drewN | apply Kd.R_drew)); exact HO690.out) hb); have n1_ := Aside0.mk (below_step (by repeat (first | (with_reducible first | exact HB.out | apply below_alloc | apply pw_below_drewN | apply below_drew1) | exact HB.out)) hb); clear HO690; clear HB; have HO690 := n0_; have HB := n1_; clear n0_ n1_; (try clear hb); (try clear hb2); (try clear hk); (try clear hi)))
      go_meet
      case rel => exact ⟨_, ((t692 != 1)), (by first | rfl | (simp; done) | (simp [*]; done)), H', ⟨by first | omega | exact Nat.le_refl _⟩, ⟨by repeat (first | (with_reducible first | exact HB.out | apply below_alloc | apply pw_below_drewN | apply below_drew1) | exact HB.out)⟩⟩
    · rw [if_neg c5] at H
      have c5b0 : (t691 == 0) = false := beq_eq_false_iff_ne.mpr c5
      have c5b1 : (t691 != 0) = true := bne_iff_ne.mpr c5
      (first | rw [c5b0] | (simp only [i64_w, i32_w]; rw [c5b0]) | skip)
      have H' := Aside0.mk H
      clear H
      go_wp2
      go_meet
      case rel => exact ⟨_, (true), (by first | rfl | (simp; done) | (simp [*]; done)), H', ⟨by first | omega | exact Nat.le_refl _⟩, ⟨by repeat (first | (with_reducible first | exact HB.out | apply below_alloc | apply pw_below_drewN | apply below_drew1) | exact HB.out)⟩⟩
  case rest =>
    clear HC3
    try clear c1
    try clear p2
    try clear c4
    try clear c5
    try clear c5b0
    try clear c5b1
    obtain ⟨kq, x25_2, rfl, HA, HJ2, HB⟩ := hcut
    cases kq with
    | zero => exact absurd HA.out (by simp [barrowlaw01_SpanGrows.j0])
    | succ kj2 =>
      have H := HA.out
      clear HA
      simp only [barrowlaw01_SpanGrows.j0] at H
      by_cases c9 : x25_2 = true
      · subst c9
        have H1 : (some false) = some r := by rw [if_pos rfl] at H; exact H
        clear H
        have H := H1
        clear H1
        obtain rfl := Option.some.inj H
        go_wp2
        go_ret
        exact ⟨by first | rfl | (simp [errW_none, errW_some] <;> rfl) | (simp [*, errW_none, errW_some] <;> rfl), by repeat (first | (with_reducible first | exact HB.out | apply below_alloc | apply pw_below_drewN | apply below_drew1) | exact HB.out)⟩
      · replace c9 := Bool.eq_false_iff.mpr c9
        subst c9
        have H1 : (barrowlaw01_SpanGrows.l0 kj2 l0 ([] : List (S26)) 0 0) = some r := by rw [if_neg (show ¬ (false = true) by decide)] at H; exact H
        clear H
        have H := H1
        clear H1
        have H' := Aside0.mk H
        clear H
        go_wp2
        go_loopg [3, 5, 6] kj2 (fun kq v3 v5 v6 w' => ∃ (x3_2 : List (S26)) (x5_2 : Int) (x6_2 : Int), v5 = .int .i64 x5_2 ∧ v6 = .int .i64 x6_2 ∧ Aside0 (barrowlaw01_SpanGrows.l0 kq l0 x3_2 x5_2 x6_2 = some r) ∧ Aside0 (kq ≤ kj2) ∧ Aside0 (Kd.R k26 26 w' w.heap.size (fun _ => True) v3 x3_2) ∧ Aside0 (Below w.heap.size w w'))
        case atStart => exact ⟨(([] : List (S26))), (0), (0), (by first | rfl | (simp; done) | (simp [*]; done)), (by first | rfl | (simp; done) | (simp [*]; done)), H', ⟨Nat.le_refl _⟩, ⟨by first | exact Kd.R_nil _ _ _ _ _ | exact Kd.N_nil _ _ _ _ _ | exact Kd.V_nil _ _ _ _ _ | exact Kd.Q_nil _ _ _ _ _ | exact Kd.S_nil _ _ _ _ _⟩, ⟨by repeat (first | (with_reducible first | exact HB.out | apply below_alloc | apply pw_below_drewN | apply below_drew1) | exact HB.out)⟩⟩
        case round =>
          clear H'
          try clear c1
          try clear p2
          try clear c4
          try clear c5
          try clear c5b0
          try clear c5b1
          try clear c9
          try clear p2
          obtain ⟨x3_2, x5_2, x6_2, rfl, rfl, HA, HK2, HO_3, HB⟩ := hrel
          cases gk with
          | zero => exact absurd HA.out (by simp [barrowlaw01_SpanGrows.l0])
          | succ k2 =>
            have H := HA.out
            clear HA
            simp only [barrowlaw01_SpanGrows.l0] at H
            by_cases c10 : x6_2 < (l0.length : Int)
            · rw [if_pos c10] at H
              have c10b0 : decide (x6_2 < (l0.length : Int)) = true := decide_eq_true c10
              clear c10
              by_cases c11 : 0 ≤ x6_2
              · rw [if_pos c11] at H
                have c11b0 : decide (0 ≤ x6_2) = true := decide_eq_true c11
                clear c11
                replace H := Option.bind_eq_some_iff.mp H
                obtain ⟨t694, A120, H⟩ := H
                replace H : ((span_Put.f k2 x3_2 (rd l0 x6_2)).bind fun bt695 => (if (rd l0 x6_2) < 1 then (barrowlaw01_SpanGrows.j2 k2 l0 x3_2 x5_2 x6_2 (rd l0 x6_2) t694 bt695.1 bt695.2 true) else (barrowlaw01_SpanGrows.j2 k2 l0 x3_2 x5_2 x6_2 (rd l0 x6_2) t694 bt695.1 bt695.2 (decide ((rd l0 x6_2) > 1000000000))))) = some r := H
                have A12 := Aside0.mk A120
                clear A120
                replace H := Option.bind_eq_some_iff.mp H
                obtain ⟨⟨t695, t698⟩, A130, H⟩ := H
                replace H : (if (rd l0 x6_2) < 1 then (barrowlaw01_SpanGrows.j2 k2 l0 x3_2 x5_2 x6_2 (rd l0 x6_2) t694 t695 t698 true) else (barrowlaw01_SpanGrows.j2 k2 l0 x3_2 x5_2 x6_2 (rd l0 x6_2) t694 t695 t698 (decide ((rd l0 x6_2) > 1000000000)))) = some r := H
                have A13 := Aside0.mk A130
                clear A130
                have HC14 := Aside0.mk H
                clear H
                have p693 : 0 ≤ (x6_2 : Int) := of_decide_eq_true (by first | (with_reducible assumption) | assumption)
                have q693 : x6_2 < (l0.length : Int) := of_decide_eq_true (by first | (with_reducible assumption) | assumption)
                obtain ⟨ad693, e693, hx693_0⟩ := Kd.at_int HR0.out x6_2 p693 q693
                cases e693
                replace hx693_0 := (HB.out.cell (World.block_lt_of_cell? w _ hx693_0)).trans hx693_0
                replace p693 := eq_true p693
                replace q693 := eq_true q693
                obtain ⟨Ao15, co15, eo15⟩ := Kd.R_slice HO_3.out
                subst eo15
                go_upto_region 12 with (first | ((with_reducible refine gate_callee (f := 43) rfl ?_); refine goesL_ (some 38) rfl rfl Try.func43 (by kernel_rfl) rfl #[.slice Ao15 x3_2.length co15, .int .i64 (rd l0 x6_2)] rfl (by (try simp only [List.map_toArray, List.map_cons, List.map_nil]); first | done | rfl | (simp only [List.length_drop, List.length_take]; rfl)) ?_; (with_reducible refine (span_Has.calls _ _ x3_2 (rd l0 x6_2) t694 _ ?side1 ?side2 A12.out).mono ?_); (case side1 => repeat (first | exact (Kd.R_reads' HO_3.out).2.2 | (with_reducible refine Kd.C_alloc ?_ _) | (with_reducible refine Kd.C_drewN ?_ _) | (with_reducible refine Kd.C_drew ?_))); (case side2 => exact (Kd.R_reads' HO_3.out).2.1); rintro e w16 ⟨rfl, hb⟩; refine ⟨_, rfl, ?_⟩; have n0_ := Aside0.mk (Kd.R_below (by (with_reducible repeat (first | apply Kd.R_alloc | apply Kd.R_drewN | apply Kd.R_drew)); exact HO_3.out) hb); have n1_ := Aside0.mk (below_step (by repeat (first | (with_reducible first | exact HB.out | apply below_alloc | apply pw_below_drewN | apply below_drew1) | exact HB.out)) hb); clear HO_3; clear HB; have HO_3 := n0_; have HB := n1_; clear n0_ n1_; (try clear hb); (try clear hb2); (try clear hk); (try clear hi)) | ((with_reducible refine gate_callee (f := 49) rfl ?_); refine goesL_ (some 42) rfl rfl Try.func49 (by kernel_rfl) rfl #[.slice Ao15 x3_2.length co15, .int .i64 (rd l0 x6_2)] rfl (by (try simp only [List.map_toArray, List.map_cons, List.map_nil]); first | done | rfl | (simp only [List.length_drop, List.length_take]; rfl)) ?_; (with_reducible refine (span_Put.calls k2 (fun k_ => some k_ = (.slice Ao15 x3_2.length co15 : Value).ownBlock) _ _ x3_2 (rd l0 x6_2) t695 t698 _ ?side1 A13.out).mono ?_); (case side1 => exact Kd.R_V (Kd.R_tight rfl (HO_3.out))); rintro e w17 ⟨v696, rfl, ho0, hb⟩; refine ⟨_, rfl, ?_⟩; have n0_ := Aside0.mk (Kd.R_elder' (by (with_reducible repeat (first | apply Kd.R_alloc | apply Kd.R_drewN | apply Kd.R_drew)); exact HO_3.out) (Kd.R_base ho0) hb); have n1_ := Aside0.mk (Kd.R_lower (Kd.R_new' (Kd.R_mono (ok' := fun k_ => True) ho0 (fun _ hk_ => trivial)) (Kd.R_lt (by (with_reducible repeat (first | apply Kd.R_alloc | apply Kd.R_drewN | apply Kd.R_drew)); exact HO_3.out))) (below_size (by repeat (first | (with_reducible first | exact HB.out | apply below_alloc | apply pw_below_drewN | apply below_drew1) | exact HB.out)))); have n2_ := Aside0.mk (below_step (by repeat (first | (with_reducible first | exact HB.out | apply below_alloc | apply pw_below_drewN | apply below_drew1) | exact HB.out)) hb); clear HO_3; clear HB; have HO_3 := n0_; have HO697 := n1_; have HB := n2_; clear n0_ n1_ n2_; (try clear hb); (try clear hb2); (try clear hk); (try clear hi); (try clear ho0)))
                (try simp only [Act.put, List.setIfInBounds_toArray, List.set_cons_zero, List.set_cons_succ])
                go_cut [50] (fun v50 wc => ∃ (kq : Nat) (x50_13 : Bool), v50 = .bool x50_13 ∧ Aside0 (barrowlaw01_SpanGrows.j2 kq l0 x3_2 x5_2 x6_2 (rd l0 x6_2) t694 t695 t698 x50_13 = some r) ∧ Aside0 (kq ≤ k2) ∧ Aside0 (Kd.R k26 26 wc w.heap.size (fun k_ => some k_ ≠ (v696 : Value).ownBlock) (.slice Ao15 x3_2.length co15) x3_2) ∧ Aside0 (Kd.R k26 26 wc w.heap.size (fun k_ => some k_ ≠ ((.slice Ao15 x3_2.length co15) : Value).ownBlock) v696 t695) ∧ Aside0 (Below w.heap.size w wc))
                case first =>
                  have H := HC14.out
                  clear HC14
                  by_cases c18 : (rd l0 x6_2) < 1
                  · rw [if_pos c18] at H
                    have c18b0 : decide ((rd l0 x6_2) < 1) = true := decide_eq_true c18
                    clear c18
                    (first | rw [c18b0] | (simp only [i64_w, i32_w]; rw [c18b0]) | skip)
                    have H' := Aside0.mk H
                    clear H
                    go_wp2
                    go_meet
                    case rel => exact ⟨_, (true), (by first | rfl | (simp; done) | (simp [*]; done)), H', ⟨by have := HJ2.out; have := HK2.out; first | omega | exact Nat.le_refl _⟩, ⟨by (with_reducible repeat (first | apply Kd.R_alloc | apply Kd.R_drewN | apply Kd.R_drew)); exact Kd.R_mono HO_3.out (fun _ hk => hk.2)⟩, ⟨by (with_reducible repeat (first | apply Kd.R_alloc | apply Kd.R_drewN | apply Kd.R_drew)); exact Kd.R_mono HO697.out (fun _ hk => hk.2)⟩, ⟨by repeat (first | (with_reducible first | exact HB.out | apply below_alloc | apply pw_below_drewN | apply below_drew1) | exact HB.out)⟩⟩
                  · rw [if_neg c18] at H
                    have c18b0 : decide ((rd l0 x6_2) < 1) = false := decide_eq_false c18
                    clear c18
                    (first | rw [c18b0] | (simp only [i64_w, i32_w]; rw [c18b0]) | skip)
                    have H' := Aside0.mk H
                    clear H
                    go_wp2
                    go_meet
                    case rel => exact ⟨_, (decide ((rd l0 x6_2) > 1000000000)), (by first | rfl | (simp; done) | (simp [*]; done)), H', ⟨by have := HJ2.out; have := HK2.out; first | omega | exact Nat.le_refl _⟩, ⟨by (with_reducible repeat (first | apply Kd.R_alloc | apply Kd.R_drewN | apply Kd.R_drew)); exact Kd.R_mono HO_3.out (fun _ hk => hk.2)⟩, ⟨by (with_reducible repeat (first | apply Kd.R_alloc | apply Kd.R_drewN | apply Kd.R_drew)); exact Kd.R_mono HO697.out (fun _ hk => hk.2)⟩, ⟨by repeat (first | (with_reducible first | exact HB.out | apply below_alloc | apply pw_below_drewN | apply below_drew1) | exact HB.out)⟩⟩
                case rest =>
                  clear HC14
                  try clear c1
                  try clear p2
                  try clear c4
                  try clear c5
                  try clear c5b0
                  try clear c5b1
                  try clear p6
                  try clear q6
                  try clear hx6
                  try clear c9
                  try clear c10
                  try clear c10b0
                  try clear c11
                  try clear c11b0
                  try clear c15
                  try clear c18
                  try clear c18b0
                  try clear hx693_0
                  try clear p2
                  try clear p693
                  try clear q693
                  obtain ⟨kq, x50_13, rfl, HA, HJ13, HO_3, HO_9, HB⟩ := hcut
                  cases kq with
                  | zero => exact absurd HA.out (by simp [barrowlaw01_SpanGrows.j2])
                  | succ kj13 =>
                    have H := HA.out
                    clear HA
                    simp only [barrowlaw01_SpanGrows.j2] at H
                    by_cases c19 : x50_13 = true
                    · subst c19
                      have H1 : (if t698 = 2 then (if (t695.length : Int) = 0 then (barrowlaw01_SpanGrows.l0 kj13 l0 x3_2 x5_2 (wrap64 (x6_2 + 1))) else (some false)) else (some false)) = some r := by rw [if_pos rfl] at H; exact H
                      clear H
                      have H := H1
                      clear H1
                      by_cases c20 : t698 = 2
                      · rw [if_pos c20] at H
                        have c20b0 : (t698 == 2) = true := beq_iff_eq.mpr c20
                        have c20b1 : (t698 != 2) = false := bne_eq_false_iff_eq.mpr c20
                        clear c20
                        by_cases c21 : (t695.length : Int) = 0
                        · rw [if_pos c21] at H
                          have c21b0 : ((t695.length : Int) == 0) = true := beq_iff_eq.mpr c21
                          have c21b1 : ((t695.length : Int) != 0) = false := bne_eq_false_iff_eq.mpr c21
                          clear c21
                          have H' := Aside0.mk H
                          clear H
                          obtain ⟨Ao22, co22, eo22⟩ := Kd.R_slice HO_9.out
                          subst eo22
                          go_wp2
                          go_roundg kj13
                          case measure => have := HJ2.out; have := HK2.out; have := HJ13.out; omega
                          case rel => exact ⟨(x3_2), (x5_2), (wrap64 (x6_2 + 1)), (by first | rfl | (simp; done) | (simp [*]; done)), (by first | rfl | (simp; done) | (simp [*]; done)), H', ⟨by have := HJ2.out; have := HK2.out; have := HJ13.out; omega⟩, ⟨by (with_reducible repeat (first | apply Kd.R_alloc | apply Kd.R_drewN | apply Kd.R_drew)); exact Kd.R_mono HO_3.out (fun _ hk => trivial)⟩, ⟨by repeat (first | (with_reducible first | exact HB.out | apply below_alloc | apply pw_below_drewN | apply below_drew1) | exact HB.out)⟩⟩
                        · rw [if_neg c21] at H
                          have c21b0 : ((t695.length : Int) == 0) = false := beq_eq_false_iff_ne.mpr c21
                          have c21b1 : ((t695.length : Int) != 0) = true := bne_iff_ne.mpr c21
                          have c21b2 : ¬ (t695 = []) := fun h_ => c21 (by rw [h_]; rfl)
                          obtain rfl := Option.some.inj H
                          obtain ⟨Ao23, co23, eo23⟩ := Kd.R_slice HO_9.out
                          subst eo23
                          go_wp2
                          go_ret
                          exact ⟨by first | rfl | (simp [errW_none, errW_some] <;> rfl) | (simp [*, errW_none, errW_some] <;> rfl), by repeat (first | (with_reducible first | exact HB.out | apply below_alloc | apply pw_below_drewN | apply below_drew1) | exact HB.out)⟩
                      · rw [if_neg c20] at H
                        have c20b0 : (t698 == 2) = false := beq_eq_false_iff_ne.mpr c20
                        have c20b1 : (t698 != 2) = true := bne_iff_ne.mpr c20
                        obtain rfl := Option.some.inj H
                        go_wp2
                        go_ret
                        exact ⟨by first | rfl | (simp [errW_none, errW_some] <;> rfl) | (simp [*, errW_none, errW_some] <;> rfl), by repeat (first | (with_reducible first | exact HB.out | apply below_alloc | apply pw_below_drewN | apply below_drew1) | exact HB.out)⟩
                    · replace c19 := Bool.eq_false_iff.mpr c19
                      subst c19
                      have H1 : (if t698 = 0 then ((span_Has.f t695 (rd l0 x6_2)).bind fun t699 => (barrowlaw01_SpanGrows.j3 kj13 l0 x5_2 x6_2 t694 t695 (!t699))) else (barrowlaw01_SpanGrows.j3 kj13 l0 x5_2 x6_2 t694 t695 true)) = some r := by rw [if_neg (show ¬ (false = true) by decide)] at H; exact H
                      clear H
                      have H := H1
                      clear H1
                      have HC24 := Aside0.mk H
                      clear H
                      go_upto_region 15 with (fail)
                      go_cut [65] (fun v65 wc => ∃ (kq : Nat) (x65_23 : Bool), v65 = .bool x65_23 ∧ Aside0 (barrowlaw01_SpanGrows.j3 kq l0 x5_2 x6_2 t694 t695 x65_23 = some r) ∧ Aside0 (kq ≤ kj13) ∧ Aside0 (Kd.R k26 26 wc w.heap.size (fun _ => True) v696 t695) ∧ Aside0 (Below w.heap.size w wc))
                      case first =>
                        have H := HC24.out
                        clear HC24
                        by_cases c25 : t698 = 0
                        · rw [if_pos c25] at H
                          have c25b0 : (t698 == 0) = true := beq_iff_eq.mpr c25
                          have c25b1 : (t698 != 0) = false := bne_eq_false_iff_eq.mpr c25
                          clear c25
                          (first | rw [c25b0] | (simp only [i64_w, i32_w]; rw [c25b0]) | skip)
                          replace H := Option.bind_eq_some_iff.mp H
                          obtain ⟨t699, A260, H⟩ := H
                          replace H : (barrowlaw01_SpanGrows.j3 kj13 l0 x5_2 x6_2 t694 t695 (!t699)) = some r := H
                          have A26 := Aside0.mk A260
                          clear A260
                          have H' := Aside0.mk H
                          clear H
                          obtain ⟨Ao27, co27, eo27⟩ := Kd.R_slice HO_9.out
                          subst eo27
                          go_wp2_with (first | (go_at_call 43; (with_reducible refine (span_Has.calls _ _ t695 (rd l0 x6_2) t699 _ ?side1 ?side2 A26.out).mono ?_); (case side1 => repeat (first | exact (Kd.R_reads' HO_9.out).2.2 | (with_reducible refine Kd.C_alloc ?_ _) | (with_reducible refine Kd.C_drewN ?_ _) | (with_reducible refine Kd.C_drew ?_))); (case side2 => exact (Kd.R_reads' HO_9.out).2.1); rintro e w28 ⟨rfl, hb⟩; have n0_ := Aside0.mk (Kd.R_below (by (with_reducible repeat (first | apply Kd.R_alloc | apply Kd.R_drewN | apply Kd.R_drew)); exact HO_3.out) hb); have n1_ := Aside0.mk (Kd.R_below (by (with_reducible repeat (first | apply Kd.R_alloc | apply Kd.R_drewN | apply Kd.R_drew)); exact HO_9.out) hb); have n2_ := Aside0.mk (below_step (by repeat (first | (with_reducible first | exact HB.out | apply below_alloc | apply pw_below_drewN | apply below_drew1) | exact HB.out)) hb); clear HO_3; clear HO_9; clear HB; have HO_3 := n0_; have HO_9 := n1_; have HB := n2_; clear n0_ n1_ n2_; (try clear hb); (try clear hb2); (try clear hk); (try clear hi)))
                          go_meet
                          case rel => exact ⟨_, (!t699), (by first | rfl | (simp; done) | (simp [*]; done)), H', ⟨by have := HJ2.out; have := HK2.out; have := HJ13.out; first | omega | exact Nat.le_refl _⟩, ⟨by (with_reducible repeat (first | apply Kd.R_alloc | apply Kd.R_drewN | apply Kd.R_drew)); exact Kd.R_mono HO_9.out (fun _ hk => trivial)⟩, ⟨by repeat (first | (with_reducible first | exact HB.out | apply below_alloc | apply pw_below_drewN | apply below_drew1) | exact HB.out)⟩⟩
                        · rw [if_neg c25] at H
                          have c25b0 : (t698 == 0) = false := beq_eq_false_iff_ne.mpr c25
                          have c25b1 : (t698 != 0) = true := bne_iff_ne.mpr c25
                          (first | rw [c25b0] | (simp only [i64_w, i32_w]; rw [c25b0]) | skip)
                          have H' := Aside0.mk H
                          clear H
                          go_wp2
                          go_meet
                          case rel => exact ⟨_, (true), (by first | rfl | (simp; done) | (simp [*]; done)), H', ⟨by have := HJ2.out; have := HK2.out; have := HJ13.out; first | omega | exact Nat.le_refl _⟩, ⟨by (with_reducible repeat (first | apply Kd.R_alloc | apply Kd.R_drewN | apply Kd.R_drew)); exact Kd.R_mono HO_9.out (fun _ hk => trivial)⟩, ⟨by repeat (first | (with_reducible first | exact HB.out | apply below_alloc | apply pw_below_drewN | apply below_drew1) | exact HB.out)⟩⟩
                      case rest =>
                        clear HC24
                        try clear c1
                        try clear c2
                        try clear p2
                        try clear c4
                        try clear c5
                        try clear c5b0
                        try clear c5b1
                        try clear p6
                        try clear q6
                        try clear hx6
                        try clear c9
                        try clear c10
                        try clear c10b0
                        try clear c11
                        try clear c11b0
                        try clear c15
                        try clear c18
                        try clear c18b0
                        try clear c19
                        try clear c20
                        try clear c20b0
                        try clear c20b1
                        try clear c21
                        try clear c21b0
                        try clear c21b1
                        try clear c21b2
                        try clear c25
                        try clear c25b0
                        try clear c25b1
                        try clear hx693_0
                        try clear p2
                        try clear p6
                        try clear p693
                        try clear q6
                        try clear q693
                        obtain ⟨kq, x65_23, rfl, HA, HJ23, HO_9, HB⟩ := hcut
                        cases kq with
                        | zero => exact absurd HA.out (by simp [barrowlaw01_SpanGrows.j3])
                        | succ kj23 =>
                          have H := HA.out
                          clear HA
                          simp only [barrowlaw01_SpanGrows.j3] at H
                          by_cases c29 : x65_23 = true
                          · subst c29
                            have H1 : (some false) = some r := by rw [if_pos rfl] at H; exact H
                            clear H
                            have H := H1
                            clear H1
                            obtain rfl := Option.some.inj H
                            go_wp2
                            go_ret
                            exact ⟨by first | rfl | (simp [errW_none, errW_some] <;> rfl) | (simp [*, errW_none, errW_some] <;> rfl), by repeat (first | (with_reducible first | exact HB.out | apply below_alloc | apply pw_below_drewN | apply below_drew1) | exact HB.out)⟩
                          · replace c29 := Bool.eq_false_iff.mpr c29
                            subst c29
                            have H1 : (if t694 = true then ((span_Size.f kj23 t695).bind fun t700 => (if t700 = x5_2 then (barrowlaw01_SpanGrows.l0 kj23 l0 t695 x5_2 (wrap64 (x6_2 + 1))) else (some false))) else ((span_Size.f kj23 t695).bind fun t701 => (if t701 = (wrap64 (x5_2 + 1)) then (barrowlaw01_SpanGrows.l0 kj23 l0 t695 (wrap64 (x5_2 + 1)) (wrap64 (x6_2 + 1))) else (some false)))) = some r := by rw [if_neg (show ¬ (false = true) by decide)] at H; exact H
                            clear H
                            have H := H1
                            clear H1
                            by_cases c30 : t694 = true
                            · subst c30
                              have H1 : ((span_Size.f kj23 t695).bind fun t700 => (if t700 = x5_2 then (barrowlaw01_SpanGrows.l0 kj23 l0 t695 x5_2 (wrap64 (x6_2 + 1))) else (some false))) = some r := by rw [if_pos rfl] at H; exact H
                              clear H
                              have H := H1
                              clear H1
                              replace H := Option.bind_eq_some_iff.mp H
                              obtain ⟨t700, A310, H⟩ := H
                              replace H : (if t700 = x5_2 then (barrowlaw01_SpanGrows.l0 kj23 l0 t695 x5_2 (wrap64 (x6_2 + 1))) else (some false)) = some r := H
                              have A31 := Aside0.mk A310
                              clear A310
                              by_cases c32 : t700 = x5_2
                              · rw [if_pos c32] at H
                                have c32b0 : (t700 == x5_2) = true := beq_iff_eq.mpr c32
                                have c32b1 : (t700 != x5_2) = false := bne_eq_false_iff_eq.mpr c32
                                clear c32
                                have H' := Aside0.mk H
                                clear H
                                obtain ⟨Ao33, co33, eo33⟩ := Kd.R_slice HO_9.out
                                subst eo33
                                go_wp2_with (first | ((with_reducible refine gate_callee (f := 33) rfl ?_); refine goesL_ (some 71) rfl rfl Try.func33 (by kernel_rfl) rfl #[.slice Ao33 t695.length co33] rfl (by (try simp only [List.map_toArray, List.map_cons, List.map_nil]); first | done | rfl | (simp only [List.length_drop, List.length_take]; rfl)) ?_; (with_reducible refine (span_Size.calls kj23 _ _ t695 t700 _ ?side1 ?side2 A31.out).mono ?_); (case side1 => repeat (first | exact (Kd.R_reads' HO_9.out).2.2 | (with_reducible refine Kd.C_alloc ?_ _) | (with_reducible refine Kd.C_drewN ?_ _) | (with_reducible refine Kd.C_drew ?_))); (case side2 => exact (Kd.R_reads' HO_9.out).2.1); rintro e w34 ⟨rfl, hb⟩; refine ⟨_, rfl, ?_⟩; have n0_ := Aside0.mk (Kd.R_below (by (with_reducible repeat (first | apply Kd.R_alloc | apply Kd.R_drewN | apply Kd.R_drew)); exact HO_9.out) hb); have n1_ := Aside0.mk (below_step (by repeat (first | (with_reducible first | exact HB.out | apply below_alloc | apply pw_below_drewN | apply below_drew1) | exact HB.out)) hb); clear HO_9; clear HB; have HO_9 := n0_; have HB := n1_; clear n0_ n1_; (try clear hb); (try clear hb2); (try clear hk); (try clear hi)))
                                go_roundg kj23
                                case measure => have := HJ2.out; have := HK2.out; have := HJ13.out; have := HJ23.out; omega
                                case rel => exact ⟨(t695), (x5_2), (wrap64 (x6_2 + 1)), (by first | rfl | (simp; done) | (simp [*]; done)), (by first | rfl | (simp; done) | (simp [*]; done)), H', ⟨by have := HJ2.out; have := HK2.out; have := HJ13.out; have := HJ23.out; omega⟩, ⟨by (with_reducible repeat (first | apply Kd.R_alloc | apply Kd.R_drewN | apply Kd.R_drew)); exact HO_9.out⟩, ⟨by repeat (first | (with_reducible first | exact HB.out | apply below_alloc | apply pw_below_drewN | apply below_drew1) | exact HB.out)⟩⟩
                              · rw [if_neg c32] at H
                                have c32b0 : (t700 == x5_2) = false := beq_eq_false_iff_ne.mpr c32
                                have c32b1 : (t700 != x5_2) = true := bne_iff_ne.mpr c32
                                obtain rfl := Option.some.inj H
                                obtain ⟨Ao35, co35, eo35⟩ := Kd.R_slice HO_9.out
                                subst eo35
                                go_wp2_with (first | ((with_reducible refine gate_callee (f := 33) rfl ?_); refine goesL_ (some 71) rfl rfl Try.func33 (by kernel_rfl) rfl #[.slice Ao35 t695.length co35] rfl (by (try simp only [List.map_toArray, List.map_cons, List.map_nil]); first | done | rfl | (simp only [List.length_drop, List.length_take]; rfl)) ?_; (with_reducible refine (span_Size.calls kj23 _ _ t695 t700 _ ?side1 ?side2 A31.out).mono ?_); (case side1 => repeat (first | exact (Kd.R_reads' HO_9.out).2.2 | (with_reducible refine Kd.C_alloc ?_ _) | (with_reducible refine Kd.C_drewN ?_ _) | (with_reducible refine Kd.C_drew ?_))); (case side2 => exact (Kd.R_reads' HO_9.out).2.1); rintro e w36 ⟨rfl, hb⟩; refine ⟨_, rfl, ?_⟩; have n0_ := Aside0.mk (Kd.R_below (by (with_reducible repeat (first | apply Kd.R_alloc | apply Kd.R_drewN | apply Kd.R_drew)); exact HO_9.out) hb); have n1_ := Aside0.mk (below_step (by repeat (first | (with_reducible first | exact HB.out | apply below_alloc | apply pw_below_drewN | apply below_drew1) | exact HB.out)) hb); clear HO_9; clear HB; have HO_9 := n0_; have HB := n1_; clear n0_ n1_; (try clear hb); (try clear hb2); (try clear hk); (try clear hi)))
                                go_ret
                                exact ⟨by first | rfl | (simp [errW_none, errW_some] <;> rfl) | (simp [*, errW_none, errW_some] <;> rfl), by repeat (first | (with_reducible first | exact HB.out | apply below_alloc | apply pw_below_drewN | apply below_drew1) | exact HB.out)⟩
                            · replace c30 := Bool.eq_false_iff.mpr c30
                              subst c30
                              have H1 : ((span_Size.f kj23 t695).bind fun t701 => (if t701 = (wrap64 (x5_2 + 1)) then (barrowlaw01_SpanGrows.l0 kj23 l0 t695 (wrap64 (x5_2 + 1)) (wrap64 (x6_2 + 1))) else (some false))) = some r := by rw [if_neg (show ¬ (false = true) by decide)] at H; exact H
                              clear H
                              have H := H1
                              clear H1
                              replace H := Option.bind_eq_some_iff.mp H
                              obtain ⟨t701, A370, H⟩ := H
                              replace H : (if t701 = (wrap64 (x5_2 + 1)) then (barrowlaw01_SpanGrows.l0 kj23 l0 t695 (wrap64 (x5_2 + 1)) (wrap64 (x6_2 + 1))) else (some false)) = some r := H
                              have A37 := Aside0.mk A370
                              clear A370
                              by_cases c38 : t701 = (wrap64 (x5_2 + 1))
                              · rw [if_pos c38] at H
                                have c38b0 : (t701 == (wrap64 (x5_2 + 1))) = true := beq_iff_eq.mpr c38
                                have c38b1 : (t701 != (wrap64 (x5_2 + 1))) = false := bne_eq_false_iff_eq.mpr c38
                                clear c38
                                have H' := Aside0.mk H
                                clear H
                                obtain ⟨Ao39, co39, eo39⟩ := Kd.R_slice HO_9.out
                                subst eo39
                                go_wp2_with (first | ((with_reducible refine gate_callee (f := 33) rfl ?_); refine goesL_ (some 71) rfl rfl Try.func33 (by kernel_rfl) rfl #[.slice Ao39 t695.length co39] rfl (by (try simp only [List.map_toArray, List.map_cons, List.map_nil]); first | done | rfl | (simp only [List.length_drop, List.length_take]; rfl)) ?_; (with_reducible refine (span_Size.calls kj23 _ _ t695 t701 _ ?side1 ?side2 A37.out).mono ?_); (case side1 => repeat (first | exact (Kd.R_reads' HO_9.out).2.2 | (with_reducible refine Kd.C_alloc ?_ _) | (with_reducible refine Kd.C_drewN ?_ _) | (with_reducible refine Kd.C_drew ?_))); (case side2 => exact (Kd.R_reads' HO_9.out).2.1); rintro e w40 ⟨rfl, hb⟩; refine ⟨_, rfl, ?_⟩; have n0_ := Aside0.mk (Kd.R_below (by (with_reducible repeat (first | apply Kd.R_alloc | apply Kd.R_drewN | apply Kd.R_drew)); exact HO_9.out) hb); have n1_ := Aside0.mk (below_step (by repeat (first | (with_reducible first | exact HB.out | apply below_alloc | apply pw_below_drewN | apply below_drew1) | exact HB.out)) hb); clear HO_9; clear HB; have HO_9 := n0_; have HB := n1_; clear n0_ n1_; (try clear hb); (try clear hb2); (try clear hk); (try clear hi)))
                                go_roundg kj23
                                case measure => have := HJ2.out; have := HK2.out; have := HJ13.out; have := HJ23.out; omega
                                case rel => exact ⟨(t695), (wrap64 (x5_2 + 1)), (wrap64 (x6_2 + 1)), (by first | rfl | (simp; done) | (simp [*]; done)), (by first | rfl | (simp; done) | (simp [*]; done)), H', ⟨by have := HJ2.out; have := HK2.out; have := HJ13.out; have := HJ23.out; omega⟩, ⟨by (with_reducible repeat (first | apply Kd.R_alloc | apply Kd.R_drewN | apply Kd.R_drew)); exact HO_9.out⟩, ⟨by repeat (first | (with_reducible first | exact HB.out | apply below_alloc | apply pw_below_drewN | apply below_drew1) | exact HB.out)⟩⟩
                              · rw [if_neg c38] at H
                                have c38b0 : (t701 == (wrap64 (x5_2 + 1))) = false := beq_eq_false_iff_ne.mpr c38
                                have c38b1 : (t701 != (wrap64 (x5_2 + 1))) = true := bne_iff_ne.mpr c38
                                obtain rfl := Option.some.inj H
                                obtain ⟨Ao41, co41, eo41⟩ := Kd.R_slice HO_9.out
                                subst eo41
                                go_wp2_with (first | ((with_reducible refine gate_callee (f := 33) rfl ?_); refine goesL_ (some 71) rfl rfl Try.func33 (by kernel_rfl) rfl #[.slice Ao41 t695.length co41] rfl (by (try simp only [List.map_toArray, List.map_cons, List.map_nil]); first | done | rfl | (simp only [List.length_drop, List.length_take]; rfl)) ?_; (with_reducible refine (span_Size.calls kj23 _ _ t695 t701 _ ?side1 ?side2 A37.out).mono ?_); (case side1 => repeat (first | exact (Kd.R_reads' HO_9.out).2.2 | (with_reducible refine Kd.C_alloc ?_ _) | (with_reducible refine Kd.C_drewN ?_ _) | (with_reducible refine Kd.C_drew ?_))); (case side2 => exact (Kd.R_reads' HO_9.out).2.1); rintro e w42 ⟨rfl, hb⟩; refine ⟨_, rfl, ?_⟩; have n0_ := Aside0.mk (Kd.R_below (by (with_reducible repeat (first | apply Kd.R_alloc | apply Kd.R_drewN | apply Kd.R_drew)); exact HO_9.out) hb); have n1_ := Aside0.mk (below_step (by repeat (first | (with_reducible first | exact HB.out | apply below_alloc | apply pw_below_drewN | apply below_drew1) | exact HB.out)) hb); clear HO_9; clear HB; have HO_9 := n0_; have HB := n1_; clear n0_ n1_; (try clear hb); (try clear hb2); (try clear hk); (try clear hi)))
                                go_ret
                                exact ⟨by first | rfl | (simp [errW_none, errW_some] <;> rfl) | (simp [*, errW_none, errW_some] <;> rfl), by repeat (first | (with_reducible first | exact HB.out | apply below_alloc | apply pw_below_drewN | apply below_drew1) | exact HB.out)⟩
              · rw [if_neg c11] at H
                exact absurd H (by simp)
            · rw [if_neg c10] at H
              have c10b0 : decide (x6_2 < (l0.length : Int)) = false := decide_eq_false c10
              clear c10
              have H' := Aside0.mk H
              clear H
              go_wp2
              go_loopg [3, 11] k2 (fun kq v3 v11 w' => ∃ (x3_3 : List (S26)) (x11_3 : Int), v11 = .int .i64 x11_3 ∧ Aside0 (barrowlaw01_SpanGrows.l1 kq l0 x3_3 x11_3 = some r) ∧ Aside0 (kq ≤ k2) ∧ Aside0 (Kd.R k26 26 w' w.heap.size (fun _ => True) v3 x3_3) ∧ Aside0 (Below w.heap.size w w'))
              case atStart => exact ⟨(x3_2), (0), (by first | rfl | (simp; done) | (simp [*]; done)), H', ⟨Nat.le_refl _⟩, ⟨by (with_reducible repeat (first | apply Kd.R_alloc | apply Kd.R_drewN | apply Kd.R_drew)); exact HO_3.out⟩, ⟨by repeat (first | (with_reducible first | exact HB.out | apply below_alloc | apply pw_below_drewN | apply below_drew1) | exact HB.out)⟩⟩
              case round =>
                clear H'
                try clear c1
                try clear c2
                try clear p2
                try clear c3
                try clear c4
                try clear c5
                try clear c5b0
                try clear c5b1
                try clear p6
                try clear q6
                try clear hx6
                try clear c9
                try clear c10
                try clear c10b0
                try clear c11
                try clear c11b0
                try clear c15
                try clear c18
                try clear c18b0
                try clear c19
                try clear c20
                try clear c20b0
                try clear c20b1
                try clear c21
                try clear c21b0
                try clear c21b1
                try clear c21b2
                try clear c25
                try clear c25b0
                try clear c25b1
                try clear c29
                try clear c30
                try clear c32
                try clear c32b0
                try clear c32b1
                try clear c33
                try clear c38
                try clear c38b0
                try clear c38b1
                try clear hx693_0
                try clear p2
                try clear p6
                try clear p693
                try clear q6
                try clear q693
                obtain ⟨x3_3, x11_3, rfl, HA, HK3, HO_3, HB⟩ := hrel
                cases gk with
                | zero => exact absurd HA.out (by simp [barrowlaw01_SpanGrows.l1])
                | succ k3 =>
                  have H := HA.out
                  clear HA
                  simp only [barrowlaw01_SpanGrows.l1] at H
                  by_cases c43 : x11_3 < (l0.length : Int)
                  · rw [if_pos c43] at H
                    have c43b0 : decide (x11_3 < (l0.length : Int)) = true := decide_eq_true c43
                    clear c43
                    by_cases c44 : 0 ≤ x11_3
                    · rw [if_pos c44] at H
                      have c44b0 : decide (0 ≤ x11_3) = true := decide_eq_true c44
                      clear c44
                      have HC45 := Aside0.mk H
                      clear H
                      have p702 : 0 ≤ (x11_3 : Int) := of_decide_eq_true (by first | (with_reducible assumption) | assumption)
                      have q702 : x11_3 < (l0.length : Int) := of_decide_eq_true (by first | (with_reducible assumption) | assumption)
                      obtain ⟨ad702, e702, hx702_0⟩ := Kd.at_int HR0.out x11_3 p702 q702
                      cases e702
                      replace hx702_0 := (HB.out.cell (World.block_lt_of_cell? w _ hx702_0)).trans hx702_0
                      replace p702 := eq_true p702
                      replace q702 := eq_true q702
                      go_upto_region 26 with (fail)
                      go_cut [90] (fun v90 wc => ∃ (kq : Nat) (x90_44 : Bool), v90 = .bool x90_44 ∧ Aside0 (barrowlaw01_SpanGrows.j5 kq l0 x3_3 x11_3 (rd l0 x11_3) x90_44 = some r) ∧ Aside0 (kq ≤ k3) ∧ Aside0 (Kd.R k26 26 wc w.heap.size (fun _ => True) u3 x3_3) ∧ Aside0 (Below w.heap.size w wc))
                      case first =>
                        have H := HC45.out
                        clear HC45
                        by_cases c46 : (rd l0 x11_3) < 1
                        · rw [if_pos c46] at H
                          have c46b0 : decide ((rd l0 x11_3) < 1) = true := decide_eq_true c46
                          clear c46
                          (first | rw [c46b0] | (simp only [i64_w, i32_w]; rw [c46b0]) | skip)
                          have H' := Aside0.mk H
                          clear H
                          go_wp2
                          go_meet
                          case rel => exact ⟨_, (true), (by first | rfl | (simp; done) | (simp [*]; done)), H', ⟨by have := HJ2.out; have := HK2.out; have := HK3.out; first | omega | exact Nat.le_refl _⟩, ⟨by (with_reducible repeat (first | apply Kd.R_alloc | apply Kd.R_drewN | apply Kd.R_drew)); exact HO_3.out⟩, ⟨by repeat (first | (with_reducible first | exact HB.out | apply below_alloc | apply pw_below_drewN | apply below_drew1) | exact HB.out)⟩⟩
                        · rw [if_neg c46] at H
                          have c46b0 : decide ((rd l0 x11_3) < 1) = false := decide_eq_false c46
                          clear c46
                          (first | rw [c46b0] | (simp only [i64_w, i32_w]; rw [c46b0]) | skip)
                          have H' := Aside0.mk H
                          clear H
                          go_wp2
                          go_meet
                          case rel => exact ⟨_, (decide ((rd l0 x11_3) > 1000000000)), (by first | rfl | (simp; done) | (simp [*]; done)), H', ⟨by have := HJ2.out; have := HK2.out; have := HK3.out; first | omega | exact Nat.le_refl _⟩, ⟨by (with_reducible repeat (first | apply Kd.R_alloc | apply Kd.R_drewN | apply Kd.R_drew)); exact HO_3.out⟩, ⟨by repeat (first | (with_reducible first | exact HB.out | apply below_alloc | apply pw_below_drewN | apply below_drew1) | exact HB.out)⟩⟩
                      case rest =>
                        clear HC45
                        try clear c1
                        try clear c2
                        try clear p2
                        try clear c3
                        try clear c4
                        try clear c5
                        try clear c5b0
                        try clear c5b1
                        try clear p6
                        try clear q6
                        try clear hx6
                        try clear p7
                        try clear q7
                        try clear hx7
                        try clear c9
                        try clear c10
                        try clear c10b0
                        try clear c11
                        try clear c11b0
                        try clear c15
                        try clear c18
                        try clear c18b0
                        try clear c19
                        try clear c20
                        try clear c20b0
                        try clear c20b1
                        try clear c21
                        try clear c21b0
                        try clear c21b1
                        try clear c21b2
                        try clear c25
                        try clear c25b0
                        try clear c25b1
                        try clear c29
                        try clear c30
                        try clear c32
                        try clear c32b0
                        try clear c32b1
                        try clear c33
                        try clear c38
                        try clear c38b0
                        try clear c38b1
                        try clear c43
                        try clear c43b0
                        try clear c44
                        try clear c44b0
                        try clear c46
                        try clear c46b0
                        try clear hx693_0
                        try clear hx702_0
                        try clear p2
                        try clear p6
                        try clear p693
                        try clear p702
                        try clear q6
                        try clear q693
                        try clear q702
                        obtain ⟨kq, x90_44, rfl, HA, HJ44, HO_3, HB⟩ := hcut
                        cases kq with
                        | zero => exact absurd HA.out (by simp [barrowlaw01_SpanGrows.j5])
                        | succ kj44 =>
                          have H := HA.out
                          clear HA
                          simp only [barrowlaw01_SpanGrows.j5] at H
                          by_cases c47 : x90_44 = true
                          · subst c47
                            have H1 : (barrowlaw01_SpanGrows.l1 kj44 l0 x3_3 (wrap64 (x11_3 + 1))) = some r := by rw [if_pos rfl] at H; exact H
                            clear H
                            have H := H1
                            clear H1
                            have H' := Aside0.mk H
                            clear H
                            go_wp2
                            go_roundg kj44
                            case measure => have := HJ2.out; have := HK2.out; have := HK3.out; have := HJ44.out; omega
                            case rel => exact ⟨(x3_3), (wrap64 (x11_3 + 1)), (by first | rfl | (simp; done) | (simp [*]; done)), H', ⟨by have := HJ2.out; have := HK2.out; have := HK3.out; have := HJ44.out; omega⟩, ⟨by (with_reducible repeat (first | apply Kd.R_alloc | apply Kd.R_drewN | apply Kd.R_drew)); exact HO_3.out⟩, ⟨by repeat (first | (with_reducible first | exact HB.out | apply below_alloc | apply pw_below_drewN | apply below_drew1) | exact HB.out)⟩⟩
                          · replace c47 := Bool.eq_false_iff.mpr c47
                            subst c47
                            have H1 : ((span_Drop.f kj44 x3_3 (rd l0 x11_3)).bind fun bt703 => (if bt703.2 = 0 then ((span_Has.f bt703.1 (rd l0 x11_3)).bind fun t707 => (if t707 = true then (some false) else (barrowlaw01_SpanGrows.l1 kj44 l0 bt703.1 (wrap64 (x11_3 + 1))))) else (some false))) = some r := by rw [if_neg (show ¬ (false = true) by decide)] at H; exact H
                            clear H
                            have H := H1
                            clear H1
                            replace H := Option.bind_eq_some_iff.mp H
                            obtain ⟨⟨t703, t704⟩, A480, H⟩ := H
                            replace H : (if t704 = 0 then ((span_Has.f t703 (rd l0 x11_3)).bind fun t707 => (if t707 = true then (some false) else (barrowlaw01_SpanGrows.l1 kj44 l0 t703 (wrap64 (x11_3 + 1))))) else (some false)) = some r := H
                            have A48 := Aside0.mk A480
                            clear A480
                            by_cases c49 : t704 = 0
                            · rw [if_pos c49] at H
                              have c49b0 : (t704 == 0) = true := beq_iff_eq.mpr c49
                              have c49b1 : (t704 != 0) = false := bne_eq_false_iff_eq.mpr c49
                              clear c49
                              replace H := Option.bind_eq_some_iff.mp H
                              obtain ⟨t707, A500, H⟩ := H
                              replace H : (if t707 = true then (some false) else (barrowlaw01_SpanGrows.l1 kj44 l0 t703 (wrap64 (x11_3 + 1)))) = some r := H
                              have A50 := Aside0.mk A500
                              clear A500
                              by_cases c51 : t707 = true
                              · subst c51
                                have H1 : (some false) = some r := by rw [if_pos rfl] at H; exact H
                                clear H
                                have H := H1
                                clear H1
                                obtain rfl := Option.some.inj H
                                obtain ⟨Ao52, co52, eo52⟩ := Kd.R_slice HO_3.out
                                subst eo52
                                go_wp2_with (first | ((with_reducible refine gate_callee (f := 52) rfl ?_); refine goesL_ (some 94) rfl rfl Try.func52 (by kernel_rfl) rfl #[.slice Ao52 x3_3.length co52, .int .i64 (rd l0 x11_3)] rfl (by (try simp only [List.map_toArray, List.map_cons, List.map_nil]); first | done | rfl | (simp only [List.length_drop, List.length_take]; rfl)) ?_; (with_reducible refine (span_Drop.calls kj44 _ _ x3_3 (rd l0 x11_3) t703 t704 _ ?side1 ?side2 A48.out).mono ?_); (case side1 => repeat (first | exact (Kd.R_reads' HO_3.out).2.2 | (with_reducible refine Kd.C_alloc ?_ _) | (with_reducible refine Kd.C_drewN ?_ _) | (with_reducible refine Kd.C_drew ?_))); (case side2 => exact (Kd.R_reads' HO_3.out).2.1); rintro e w53 ⟨v705, rfl, ho0, hb⟩; refine ⟨_, rfl, ?_⟩; have n0_ := Aside0.mk (Kd.R_elder' (by (with_reducible repeat (first | apply Kd.R_alloc | apply Kd.R_drewN | apply Kd.R_drew)); exact HO_3.out) (Kd.R_base ho0) hb); have n1_ := Aside0.mk (Kd.R_lower (Kd.R_new' ho0 (Kd.R_lt (by (with_reducible repeat (first | apply Kd.R_alloc | apply Kd.R_drewN | apply Kd.R_drew)); exact HO_3.out))) (below_size (by repeat (first | (with_reducible first | exact HB.out | apply below_alloc | apply pw_below_drewN | apply below_drew1) | exact HB.out)))); have n2_ := Aside0.mk (below_step (by repeat (first | (with_reducible first | exact HB.out | apply below_alloc | apply pw_below_drewN | apply below_drew1) | exact HB.out)) hb); clear HO_3; clear HB; have HO_3 := n0_; have HO706 := n1_; have HB := n2_; clear n0_ n1_ n2_; (try clear hb); (try clear hb2); (try clear hk); (try clear hi); (try clear ho0); obtain ⟨Ao54, co54, eo54⟩ := Kd.R_slice HO706.out; subst eo54) | (go_at_call 43; (with_reducible refine (span_Has.calls _ _ t703 (rd l0 x11_3) true _ ?side1 ?side2 A50.out).mono ?_); (case side1 => repeat (first | exact (Kd.R_reads' HO706.out).2.2 | (with_reducible refine Kd.C_alloc ?_ _) | (with_reducible refine Kd.C_drewN ?_ _) | (with_reducible refine Kd.C_drew ?_))); (case side2 => exact (Kd.R_reads' HO706.out).2.1); rintro e w55 ⟨rfl, hb⟩; have n0_ := Aside0.mk (Kd.R_below (by (with_reducible repeat (first | apply Kd.R_alloc | apply Kd.R_drewN | apply Kd.R_drew)); exact HO_3.out) hb); have n1_ := Aside0.mk (Kd.R_below (by (with_reducible repeat (first | apply Kd.R_alloc | apply Kd.R_drewN | apply Kd.R_drew)); exact HO706.out) hb); have n2_ := Aside0.mk (below_step (by repeat (first | (with_reducible first | exact HB.out | apply below_alloc | apply pw_below_drewN | apply below_drew1) | exact HB.out)) hb); clear HO_3; clear HO706; clear HB; have HO_3 := n0_; have HO706 := n1_; have HB := n2_; clear n0_ n1_ n2_; (try clear hb); (try clear hb2); (try clear hk); (try clear hi)))
                                go_ret
                                exact ⟨by first | rfl | (simp [errW_none, errW_some] <;> rfl) | (simp [*, errW_none, errW_some] <;> rfl), by repeat (first | (with_reducible first | exact HB.out | apply below_alloc | apply pw_below_drewN | apply below_drew1) | exact HB.out)⟩
                              · replace c51 := Bool.eq_false_iff.mpr c51
                                subst c51
                                have H1 : (barrowlaw01_SpanGrows.l1 kj44 l0 t703 (wrap64 (x11_3 + 1))) = some r := by rw [if_neg (show ¬ (false = true) by decide)] at H; exact H
                                clear H
                                have H := H1
                                clear H1
                                have H' := Aside0.mk H
                                clear H
                                obtain ⟨Ao56, co56, eo56⟩ := Kd.R_slice HO_3.out
                                subst eo56
                                go_wp2_with (first | ((with_reducible refine gate_callee (f := 52) rfl ?_); refine goesL_ (some 94) rfl rfl Try.func52 (by kernel_rfl) rfl #[.slice Ao56 x3_3.length co56, .int .i64 (rd l0 x11_3)] rfl (by (try simp only [List.map_toArray, List.map_cons, List.map_nil]); first | done | rfl | (simp only [List.length_drop, List.length_take]; rfl)) ?_; (with_reducible refine (span_Drop.calls kj44 _ _ x3_3 (rd l0 x11_3) t703 t704 _ ?side1 ?side2 A48.out).mono ?_); (case side1 => repeat (first | exact (Kd.R_reads' HO_3.out).2.2 | (with_reducible refine Kd.C_alloc ?_ _) | (with_reducible refine Kd.C_drewN ?_ _) | (with_reducible refine Kd.C_drew ?_))); (case side2 => exact (Kd.R_reads' HO_3.out).2.1); rintro e w57 ⟨v705, rfl, ho0, hb⟩; refine ⟨_, rfl, ?_⟩; have n0_ := Aside0.mk (Kd.R_elder' (by (with_reducible repeat (first | apply Kd.R_alloc | apply Kd.R_drewN | apply Kd.R_drew)); exact HO_3.out) (Kd.R_base ho0) hb); have n1_ := Aside0.mk (Kd.R_lower (Kd.R_new' ho0 (Kd.R_lt (by (with_reducible repeat (first | apply Kd.R_alloc | apply Kd.R_drewN | apply Kd.R_drew)); exact HO_3.out))) (below_size (by repeat (first | (with_reducible first | exact HB.out | apply below_alloc | apply pw_below_drewN | apply below_drew1) | exact HB.out)))); have n2_ := Aside0.mk (below_step (by repeat (first | (with_reducible first | exact HB.out | apply below_alloc | apply pw_below_drewN | apply below_drew1) | exact HB.out)) hb); clear HO_3; clear HB; have HO_3 := n0_; have HO706 := n1_; have HB := n2_; clear n0_ n1_ n2_; (try clear hb); (try clear hb2); (try clear hk); (try clear hi); (try clear ho0); obtain ⟨Ao58, co58, eo58⟩ := Kd.R_slice HO706.out; subst eo58) | (go_at_call 43; (with_reducible refine (span_Has.calls _ _ t703 (rd l0 x11_3) false _ ?side1 ?side2 A50.out).mono ?_); (case side1 => repeat (first | exact (Kd.R_reads' HO706.out).2.2 | (with_reducible refine Kd.C_alloc ?_ _) | (with_reducible refine Kd.C_drewN ?_ _) | (with_reducible refine Kd.C_drew ?_))); (case side2 => exact (Kd.R_reads' HO706.out).2.1); rintro e w59 ⟨rfl, hb⟩; have n0_ := Aside0.mk (Kd.R_below (by (with_reducible repeat (first | apply Kd.R_alloc | apply Kd.R_drewN | apply Kd.R_drew)); exact HO_3.out) hb); have n1_ := Aside0.mk (Kd.R_below (by (with_reducible repeat (first | apply Kd.R_alloc | apply Kd.R_drewN | apply Kd.R_drew)); exact HO706.out) hb); have n2_ := Aside0.mk (below_step (by repeat (first | (with_reducible first | exact HB.out | apply below_alloc | apply pw_below_drewN | apply below_drew1) | exact HB.out)) hb); clear HO_3; clear HO706; clear HB; have HO_3 := n0_; have HO706 := n1_; have HB := n2_; clear n0_ n1_ n2_; (try clear hb); (try clear hb2); (try clear hk); (try clear hi)))
                                go_roundg kj44
                                case measure => have := HJ2.out; have := HK2.out; have := HK3.out; have := HJ44.out; omega
                                case rel => exact ⟨(t703), (wrap64 (x11_3 + 1)), (by first | rfl | (simp; done) | (simp [*]; done)), H', ⟨by have := HJ2.out; have := HK2.out; have := HK3.out; have := HJ44.out; omega⟩, ⟨by (with_reducible repeat (first | apply Kd.R_alloc | apply Kd.R_drewN | apply Kd.R_drew)); exact Kd.R_mono HO706.out (fun _ hk => trivial)⟩, ⟨by repeat (first | (with_reducible first | exact HB.out | apply below_alloc | apply pw_below_drewN | apply below_drew1) | exact HB.out)⟩⟩
                            · rw [if_neg c49] at H
                              have c49b0 : (t704 == 0) = false := beq_eq_false_iff_ne.mpr c49
                              have c49b1 : (t704 != 0) = true := bne_iff_ne.mpr c49
                              obtain rfl := Option.some.inj H
                              obtain ⟨Ao60, co60, eo60⟩ := Kd.R_slice HO_3.out
                              subst eo60
                              go_wp2_with (first | ((with_reducible refine gate_callee (f := 52) rfl ?_); refine goesL_ (some 94) rfl rfl Try.func52 (by kernel_rfl) rfl #[.slice Ao60 x3_3.length co60, .int .i64 (rd l0 x11_3)] rfl (by (try simp only [List.map_toArray, List.map_cons, List.map_nil]); first | done | rfl | (simp only [List.length_drop, List.length_take]; rfl)) ?_; (with_reducible refine (span_Drop.calls kj44 _ _ x3_3 (rd l0 x11_3) t703 t704 _ ?side1 ?side2 A48.out).mono ?_); (case side1 => repeat (first | exact (Kd.R_reads' HO_3.out).2.2 | (with_reducible refine Kd.C_alloc ?_ _) | (with_reducible refine Kd.C_drewN ?_ _) | (with_reducible refine Kd.C_drew ?_))); (case side2 => exact (Kd.R_reads' HO_3.out).2.1); rintro e w61 ⟨v705, rfl, ho0, hb⟩; refine ⟨_, rfl, ?_⟩; have n0_ := Aside0.mk (Kd.R_elder' (by (with_reducible repeat (first | apply Kd.R_alloc | apply Kd.R_drewN | apply Kd.R_drew)); exact HO_3.out) (Kd.R_base ho0) hb); have n1_ := Aside0.mk (Kd.R_lower (Kd.R_new' ho0 (Kd.R_lt (by (with_reducible repeat (first | apply Kd.R_alloc | apply Kd.R_drewN | apply Kd.R_drew)); exact HO_3.out))) (below_size (by repeat (first | (with_reducible first | exact HB.out | apply below_alloc | apply pw_below_drewN | apply below_drew1) | exact HB.out)))); have n2_ := Aside0.mk (below_step (by repeat (first | (with_reducible first | exact HB.out | apply below_alloc | apply pw_below_drewN | apply below_drew1) | exact HB.out)) hb); clear HO_3; clear HB; have HO_3 := n0_; have HO706 := n1_; have HB := n2_; clear n0_ n1_ n2_; (try clear hb); (try clear hb2); (try clear hk); (try clear hi); (try clear ho0)))
                              go_ret
                              exact ⟨by first | rfl | (simp [errW_none, errW_some] <;> rfl) | (simp [*, errW_none, errW_some] <;> rfl), by repeat (first | (with_reducible first | exact HB.out | apply below_alloc | apply pw_below_drewN | apply below_drew1) | exact HB.out)⟩
                    · rw [if_neg c44] at H
                      exact absurd H (by simp)
                  · rw [if_neg c43] at H
                    have c43b0 : decide (x11_3 < (l0.length : Int)) = false := decide_eq_false c43
                    clear c43
                    obtain rfl := Option.some.inj H
                    obtain ⟨Ao62, co62, eo62⟩ := Kd.R_slice HO_3.out
                    subst eo62
                    go_wp2
                    go_ret
                    exact ⟨by first | rfl | (simp [errW_none, errW_some] <;> rfl) | (simp [*, errW_none, errW_some] <;> rfl), by repeat (first | (with_reducible first | exact HB.out | apply below_alloc | apply pw_below_drewN | apply below_drew1) | exact HB.out)⟩

/-- THE ONE PURE STATEMENT of barrowlaw01_SpanGrows: yours. -/
def barrowlaw01_SpanGrows.Pure : Prop := ∀ (l0 : List Int), l0.length ≤ maxLen → l0.length * 8 ≤ 140737488351232 → (∀ x ∈ l0, (Lit.int .i64 x).wf = true) → ∃ k, barrowlaw01_SpanGrows.f k l0 = some true
theorem barrowlaw01_SpanGrows.walk (P : barrowlaw01_SpanGrows.Pure) (a0 : Option Addr) (len0 cap0 : Nat) (z0 : List Int) (w : World) (w0 : (a0 = none ∧ len0 = 0 ∧ cap0 = 0 ∧ z0 = []) ∨ ∃ x, a0 = some x ∧ len0 ≤ cap0 ∧ cap0 ≤ maxLen ∧ z0.length = cap0 ∧ (∀ i, i < z0.length → w.cell? (x.add i) = some (.int .i64 (z0.getD i 0))) ∧ ∀ n ∈ z0, (Lit.int .i64 n).wf = true) (y0 : len0 * 8 ≤ 140737488351232) :
    Calls Try.prog 15 #[.slice a0 len0 cap0] w fun e w' => e = .returned (.bool true) ∧ Below w.heap.size w w' := by
  obtain ⟨l0, rfl, hr0, hm0, hw0, hc0⟩ := ReadsInt.ofRowC w0
  obtain ⟨k, h⟩ := P l0 hm0 y0 hw0
  refine (barrowlaw01_SpanGrows.calls k _ _ l0 true w (Kd.C_of_reads (d := (0 : Int)) (h1 := fun _ => rfl) hr0) hc0 h).mono ?_
  rintro e w' ⟨rfl, hd⟩
  exact ⟨rfl, hd⟩

end Go.Proofs.Yteldhpneegccjaa.G
