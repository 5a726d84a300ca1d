-- PRINTED by print.py (a twelfth state) out of the translation. Not trusted: Lean checks it.
import Derived.Test.YteldhpneegccjaaGx0
import Derived.Test.YteldhpneegccjaaGx10
namespace Go.Proofs.Yteldhpneegccjaa.G
open Go.RowKit Go.Proofs.YteldhpneegccjaaW.PrintWords Go.Proofs.YteldhpneegccjaaW.PrintLast Go.Proofs.YteldhpneegccjaaW.PrintMore
attribute [local go_sem] max2_int min2_int max_two min_two max_three min_three max_four min_four   -- for this text's walks alone
set_option linter.unusedVariables false
set_option linter.unusedSimpArgs false

/-! ### span_Pick: function 23 -/
def span_Pick.l0 : Nat → Int → List (S26) → Int → Int → Option (Int)
 | 0, _, _, _, _ => none
 | k + 1, x1, x11, x12, x13 => if x13 < x12 then (if 0 ≤ x13 then (if x13 < (x11.length : Int) then (if x1 ≤ (wrap64 ((wrap64 (((rd_T26 x11 x13).f1) - ((rd_T26 x11 x13).f0))) + 1)) then (some (wrap64 ((wrap64 (((rd_T26 x11 x13).f0) + x1)) - 1))) else (span_Pick.l0 k (wrap64 (x1 - (wrap64 ((wrap64 (((rd_T26 x11 x13).f1) - ((rd_T26 x11 x13).f0))) + 1)))) x11 x12 (wrap64 (x13 + 1)))) else (none)) else (none)) else (some 0)
def span_Pick.f (k : Nat) (l0 : List (S26)) (a1 : Int) : Option (Int) := if a1 < 1 then (some 0) else ((span_Norm.f k l0).bind fun t253 => (span_Pick.l0 k a1 t253 (t253.length : Int) 0))
theorem span_Pick.mono_l : ∀ k, (∀ y0 y1 y2 y3, LeO (span_Pick.l0 k y0 y1 y2 y3) (span_Pick.l0 (k + 1) y0 y1 y2 y3))
 | 0 => fun _ _ _ _ r h => by simp [span_Pick.l0] at h
 | k + 1 => by
  have ih0 := span_Pick.mono_l k
  ·intro y0 y1 y2 y3
   unfold span_Pick.l0
   repeat' first
   | (with_reducible exact ih0 _ _ _ _)
   | (with_reducible exact span_Norm.mono _ _)
   | (with_reducible exact LeO.refl _)
   | (with_reducible exact LeO.none _)
   | (with_reducible refine LeO.ite ?_ ?_)
   | (with_reducible refine LeO.bind ?_ (fun _ => ?_))
   | exact ih0 _ _ _ _
   | exact span_Norm.mono _ _
   | exact LeO.none _
   | refine LeO.ite ?_ ?_
   | refine LeO.bind ?_ (fun _ => ?_)
theorem span_Pick.mono : ∀ a0 a1 k, LeO (span_Pick.f k a0 a1) (span_Pick.f (k + 1) a0 a1) := by
 intro a0 a1 k
 have ih0 := span_Pick.mono_l k
 unfold span_Pick.f
 repeat' first
   | (with_reducible exact ih0 _ _ _ _)
   | (with_reducible exact span_Norm.mono _ _)
   | (with_reducible exact LeO.refl _)
   | (with_reducible exact LeO.none _)
   | (with_reducible refine LeO.ite ?_ ?_)
   | (with_reducible refine LeO.bind ?_ (fun _ => ?_))
   | exact ih0 _ _ _ _
   | exact span_Norm.mono _ _
   | exact LeO.none _
   | refine LeO.ite ?_ ?_
   | refine LeO.bind ?_ (fun _ => ?_)
set_option maxHeartbeats 8000000 in
set_option maxRecDepth 100000 in
theorem span_Pick.calls (k : Nat) (A0 : Option Addr) (c0 : Nat) (l0 : List (S26)) (a1 : Int) (r : Int) (w : World) (hr0 : Kd.C k26 w A0 l0.length l0) (hc0 : l0.length ≤ c0) (h : span_Pick.f k l0 a1 = some r) :
  Calls Try.prog 23 #[.slice A0 l0.length c0, .int .i64 a1] w fun e w' => e = .returned (.int .i64 r) ∧ Below w.heap.size w w' := by
 have hu26 := Try.underlying26
 have HR0 := Aside0.mk hr0
 have HC0 := Aside0.mk hc0
 clear hr0 hc0
 have HB := Aside0.mk (Below.refl w.heap.size w)
 have H : (if a1 < 1 then (some 0) else ((span_Norm.f k l0).bind fun t253 => (span_Pick.l0 k a1 t253 (t253.length : Int) 0))) = some r := h
 clear h
 by_cases c3 : a1 < 1
 ·rw [if_pos c3] at H
  have c3b0 : decide (a1 < 1) = true := decide_eq_true c3
  clear c3
  obtain rfl := Option.some.inj H
  go_enter Try.func23, Try.ntmps23
  go_wp2
  go_ret
  exact ⟨by first | rfl | (simp [errW_none, errW_some] <;> rfl) | (simp [*, errW_none, errW_some] <;> rfl), by repeat (first | (with_reducible first | exact HB.out | apply below_alloc | apply pw_below_drewN | apply below_drew1) | exact HB.out)⟩
 ·rw [if_neg c3] at H
  have c3b0 : decide (a1 < 1) = false := decide_eq_false c3
  clear c3
  replace H := Option.bind_eq_some_iff.mp H
  obtain ⟨t253, A40, H⟩ := H
  replace H : (span_Pick.l0 k a1 t253 (t253.length : Int) 0) = some r := H
  have A4 := Aside0.mk A40
  clear A40
  have H' := Aside0.mk H
  clear H
  go_enter Try.func23, Try.ntmps23
  go_wp2_with (first | ((with_reducible refine gate_callee (f := 32) rfl ?_); refine goesL_ (some 11) rfl rfl Try.func32 (by kernel_rfl) rfl #[.slice A0 l0.length c0] rfl (by (try simp only [List.map_toArray, List.map_cons, List.map_nil]); first | done | rfl | (simp only [List.length_drop, List.length_take]; rfl)) ?_; (with_reducible refine (span_Norm.calls k (fun k_ => k_ < w.heap.size) _ _ l0 t253 _ ?side1 A4.out).mono ?_); (case side1 => exact Kd.V_mk HC0.out (Kd.F_below (Kd.C_F k26_heap HR0.out) (by repeat (first | (with_reducible first | exact HB.out | apply below_alloc | apply pw_below_drewN | apply below_drew1) | exact HB.out)))); rintro e w5 ⟨v254, rfl, ho0, hb⟩; refine ⟨_, rfl, ?_⟩; have n0_ := Aside0.mk (Kd.R_lower (Kd.R_mono (ok' := fun k_ => True) ho0 (fun _ hk_ => trivial)) (below_size (by repeat (first | (with_reducible first | exact HB.out | apply below_alloc | apply pw_below_drewN | apply below_drew1) | exact HB.out)))); have n1_ := Aside0.mk (below_step (by repeat (first | (with_reducible first | exact HB.out | apply below_alloc | apply pw_below_drewN | apply below_drew1) | exact HB.out)) hb); clear HB; have HO255 := n0_; have HB := n1_; clear n0_ n1_; (try clear hb); (try clear hb2); (try clear hk); (try clear hi); (try clear ho0); obtain ⟨Ao6, co6, eo6⟩ := Kd.R_slice HO255.out; subst eo6))
  go_loopg [1, 13] k (fun kq v1 v13 w' => ∃ (x1_1 : Int) (x13_1 : Int), v1 = .int .i64 x1_1 ∧ v13 = .int .i64 x13_1 ∧ Aside0 (span_Pick.l0 kq x1_1 t253 (t253.length : Int) x13_1 = some r) ∧ Aside0 (kq ≤ k) ∧ Aside0 (Kd.R k26 26 w' w.heap.size (fun _ => True) (.slice Ao6 t253.length co6) t253) ∧ Aside0 (Below w.heap.size w w'))
  case atStart => exact ⟨(a1), (0), (by first | rfl | (simp; done) | (simp [*]; done)), (by first | rfl | (simp; done) | (simp [*]; done)), H', ⟨Nat.le_refl _⟩, ⟨by (with_reducible repeat (first | apply Kd.R_alloc | apply Kd.R_drewN | apply Kd.R_drew)); exact HO255.out⟩, ⟨by repeat (first | (with_reducible first | exact HB.out | apply below_alloc | apply pw_below_drewN | apply below_drew1) | exact HB.out)⟩⟩
  case round =>
   clear H'
   try clear c2
   try clear p2
   try clear c3
   try clear c3b0
   obtain ⟨x1_1, x13_1, rfl, rfl, HA, HK1, HO_11, HB⟩ := hrel
   cases gk with
   | zero => exact absurd HA.out (by simp [span_Pick.l0])
   | succ k1 =>
    have H := HA.out
    clear HA
    simp only [span_Pick.l0] at H
    by_cases c7 : x13_1 < (t253.length : Int)
    ·rw [if_pos c7] at H
     have c7b0 : decide (x13_1 < (t253.length : Int)) = true := decide_eq_true c7
     clear c7
     by_cases c8 : 0 ≤ x13_1
     ·rw [if_pos c8] at H
      have c8b0 : decide (0 ≤ x13_1) = true := decide_eq_true c8
      clear c8
      by_cases c9 : x13_1 < (t253.length : Int)
      ·rw [if_pos c9] at H
       have c9b0 : decide (x13_1 < (t253.length : Int)) = true := decide_eq_true c9
       clear c9
       by_cases c10 : x1_1 ≤ (wrap64 ((wrap64 (((rd_T26 t253 x13_1).f1) - ((rd_T26 t253 x13_1).f0))) + 1))
       ·rw [if_pos c10] at H
        have c10b0 : decide (x1_1 ≤ (wrap64 ((wrap64 (((rd_T26 t253 x13_1).f1) - ((rd_T26 t253 x13_1).f0))) + 1))) = true := decide_eq_true c10
        clear c10
        obtain rfl := Option.some.inj H
        have p256 : 0 ≤ (x13_1 : Int) := of_decide_eq_true (by first | (with_reducible assumption) | assumption)
        have q256 : x13_1 < (t253.length : Int) := of_decide_eq_true (by first | (with_reducible assumption) | assumption)
        obtain ⟨ad256, e256, hx256_0, hx256_1⟩ := at_T26 (Kd.R_reads' HO_11.out).2.2 x13_1 p256 q256
        cases e256
        replace p256 := eq_true p256
        replace q256 := eq_true q256
        go_wp2_with (first | ((with_reducible refine gate_dst (N := 6) rfl ?_); refine box_event ?hg (N := 6) ?hd (cs := #[.int .i64 0, .int .i64 0]) (t := 26) ?hr ?_; (case hd => rfl); (case hg => rfl); (case hr => first | (go_simp; done) | (go_simp; rfl)); intro gb257 hg w11 hbox hb; have n0_ := Aside0.mk (Kd.R_below (Kd.R_elderB (by (with_reducible repeat (first | apply Kd.R_alloc | apply Kd.R_drewN | apply Kd.R_drew)); exact HO_11.out) gb257 (Nat.le_of_eq hg.symm)) hb); have n1_ := Aside0.mk (below_step (by repeat (first | (with_reducible first | exact HB.out | apply below_alloc | apply pw_below_drewN | apply below_drew1) | exact HB.out)) hb); have n2_ := Aside0.mk (hbox); have n3_ := Aside0.mk ((by rw [hg]; exact (below_size (by repeat (first | (with_reducible first | exact HB.out | apply below_alloc | apply pw_below_drewN | apply below_drew1) | exact HB.out))) : w.heap.size ≤ gb257)); have n4_ := Aside0.mk ((by rw [hg]; exact (below_size (by repeat (first | (with_reducible first | exact HB.out | apply below_alloc | apply pw_below_drewN | apply below_drew1) | exact HB.out))) : w.heap.size ≤ gb257)); clear HO_11; clear HB; have HO_11 := n0_; have HB := n1_; have BK257 := n2_; have GW257 := n3_; have GE257 := n4_; clear n0_ n1_ n2_ n3_ n4_; clear hb hbox hg; have hcz12_0 : w11.cell? ⟨gb257, 0, none⟩ = some (.int .i64 0) := (blk_cell BK257.out 0).trans rfl; have hcz12_1 : w11.cell? ⟨gb257, 1, none⟩ = some (.int .i64 0) := (blk_cell BK257.out 1).trans rfl; have hfz12_0 := blk_frozen BK257.out 0; have hfz12_1 := blk_frozen BK257.out 1))
        go_ret
        exact ⟨by first | rfl | (simp [errW_none, errW_some] <;> rfl) | (simp [*, errW_none, errW_some] <;> rfl), by repeat (first | (with_reducible first | exact HB.out | apply below_alloc | apply pw_below_drewN | apply below_drew1 | refine below_set ?_ GE257.out) | exact HB.out)⟩
       ·rw [if_neg c10] at H
        have c10b0 : decide (x1_1 ≤ (wrap64 ((wrap64 (((rd_T26 t253 x13_1).f1) - ((rd_T26 t253 x13_1).f0))) + 1))) = false := decide_eq_false c10
        clear c10
        have H' := Aside0.mk H
        clear H
        have p256 : 0 ≤ (x13_1 : Int) := of_decide_eq_true (by first | (with_reducible assumption) | assumption)
        have q256 : x13_1 < (t253.length : Int) := of_decide_eq_true (by first | (with_reducible assumption) | assumption)
        obtain ⟨ad256, e256, hx256_0, hx256_1⟩ := at_T26 (Kd.R_reads' HO_11.out).2.2 x13_1 p256 q256
        cases e256
        replace p256 := eq_true p256
        replace q256 := eq_true q256
        go_wp2_with (first | ((with_reducible refine gate_dst (N := 6) rfl ?_); refine box_event ?hg (N := 6) ?hd (cs := #[.int .i64 0, .int .i64 0]) (t := 26) ?hr ?_; (case hd => rfl); (case hg => rfl); (case hr => first | (go_simp; done) | (go_simp; rfl)); intro gb257 hg w13 hbox hb; have n0_ := Aside0.mk (Kd.R_below (Kd.R_elderB (by (with_reducible repeat (first | apply Kd.R_alloc | apply Kd.R_drewN | apply Kd.R_drew)); exact HO_11.out) gb257 (Nat.le_of_eq hg.symm)) hb); have n1_ := Aside0.mk (below_step (by repeat (first | (with_reducible first | exact HB.out | apply below_alloc | apply pw_below_drewN | apply below_drew1) | exact HB.out)) hb); have n2_ := Aside0.mk (hbox); have n3_ := Aside0.mk ((by rw [hg]; exact (below_size (by repeat (first | (with_reducible first | exact HB.out | apply below_alloc | apply pw_below_drewN | apply below_drew1) | exact HB.out))) : w.heap.size ≤ gb257)); have n4_ := Aside0.mk ((by rw [hg]; exact (below_size (by repeat (first | (with_reducible first | exact HB.out | apply below_alloc | apply pw_below_drewN | apply below_drew1) | exact HB.out))) : w.heap.size ≤ gb257)); clear HO_11; clear HB; have HO_11 := n0_; have HB := n1_; have BK257 := n2_; have GW257 := n3_; have GE257 := n4_; clear n0_ n1_ n2_ n3_ n4_; clear hb hbox hg; have hcz14_0 : w13.cell? ⟨gb257, 0, none⟩ = some (.int .i64 0) := (blk_cell BK257.out 0).trans rfl; have hcz14_1 : w13.cell? ⟨gb257, 1, none⟩ = some (.int .i64 0) := (blk_cell BK257.out 1).trans rfl; have hfz14_0 := blk_frozen BK257.out 0; have hfz14_1 := blk_frozen BK257.out 1))
        go_roundg k1
        case measure => have := HK1.out; omega
        case rel => exact ⟨(wrap64 (x1_1 - (wrap64 ((wrap64 (((rd_T26 t253 x13_1).f1) - ((rd_T26 t253 x13_1).f0))) + 1)))), (wrap64 (x13_1 + 1)), (by first | rfl | (simp; done) | (simp [*]; done)), (by first | rfl | (simp; done) | (simp [*]; done)), H', ⟨by have := HK1.out; omega⟩, ⟨by (with_reducible repeat (first | apply Kd.R_alloc | apply Kd.R_drewN | apply Kd.R_drew)); exact Kd.R_mono (Kd.R_far (p := ⟨gb257, 1, none⟩) (Kd.R_far (p := ⟨gb257, 0, none⟩) (Kd.R_mono HO_11.out (fun k_ hk => (⟨hk, hk.2⟩ : _ ∧ k_ ≠ gb257))) (fun _ hk => hk.2) (.int .i64 ((rd_T26 t253 x13_1).f0))) (fun _ hk => hk.2) (.int .i64 ((rd_T26 t253 x13_1).f1))) (fun _ hk => trivial)⟩, ⟨by repeat (first | (with_reducible first | exact HB.out | apply below_alloc | apply pw_below_drewN | apply below_drew1 | refine below_set ?_ GE257.out) | exact HB.out)⟩⟩
      ·rw [if_neg c9] at H
       exact absurd H (by simp)
     ·rw [if_neg c8] at H
      exact absurd H (by simp)
    ·rw [if_neg c7] at H
     have c7b0 : decide (x13_1 < (t253.length : Int)) = false := decide_eq_false c7
     clear c7
     obtain rfl := Option.some.inj H
     go_wp2
     go_ret
     exact ⟨by first | rfl | (simp [errW_none, errW_some] <;> rfl) | (simp [*, errW_none, errW_some] <;> rfl), by repeat (first | (with_reducible first | exact HB.out | apply below_alloc | apply pw_below_drewN | apply below_drew1) | exact HB.out)⟩

end Go.Proofs.Yteldhpneegccjaa.G
