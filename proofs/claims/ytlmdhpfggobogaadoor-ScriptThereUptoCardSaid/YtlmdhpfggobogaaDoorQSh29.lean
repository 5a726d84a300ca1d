import Derived.Test.YtlmdhpfggobogaaDoorQSh5
import Derived.Test.YtlmdhpfggobogaaDoorQSh23
import Derived.Test.YtlmdhpfggobogaaDoorQSh6
import Derived.Test.YtlmdhpfggobogaaDoorQSh17
import Derived.Test.YtlmdhpfggobogaaDoorQSh28
import Derived.Test.YtlmdhpfggobogaaDoorQSh16
-- PRINTED by print.py (a twelfth state) out of the translation. Not trusted: Lean checks it.
namespace Go.Proofs.YtlmdhpfggobogaaDoor.G
open Go.RowKit Go.Proofs.YtlmdhpfggobogaaDoorW.PrintWords Go.Proofs.YtlmdhpfggobogaaDoorW.PrintLast Go.Proofs.YtlmdhpfggobogaaDoorW.PrintMore
attribute [local go_sem] max2_int min2_int max_two min_two max_three min_three max_four min_four   -- for this text's walks alone
set_option linter.unusedVariables false
set_option linter.unusedSimpArgs false

/-! ### barrowlaw24_ScriptThere: function 11 -/
def barrowlaw24_ScriptThere.f (k : Nat) (a0_0 : Int) (a0_1 : Int) (a0_2 : Int) (a0_3 : Int) (a0_4 : Int) (a0_5 : Int) (l0_6 : List (S29)) : Option (Bool) := (barrowlaw24_awake.f k).bind fun t579 => (if t579 = true then ((script_Print.f a0_0 a0_1 a0_2 a0_3 a0_4 a0_5 l0_6).bind fun t580 => ((script_Parse.f k t580).bind fun bt581 => (if bt581.2.2.2.2.2.2.2.2 = 0 then (if bt581.2.2.2.2.2.2.2.1 = 0 then ((barrowlaw24_plain.f k a0_0 a0_1 a0_2 a0_3 a0_4 a0_5 l0_6).bind fun bt593 => ((barrowref24_Equal.f k bt581.1 bt581.2.1 bt581.2.2.1 bt581.2.2.2.1 bt581.2.2.2.2.1 bt581.2.2.2.2.2.1 bt581.2.2.2.2.2.2.1 bt593.1 bt593.2.1 bt593.2.2.1 bt593.2.2.2.1 bt593.2.2.2.2.1 bt593.2.2.2.2.2.1 bt593.2.2.2.2.2.2).bind fun t602 => (some t602))) else (some false)) else (some false)))) else (some false))
def barrowlaw24_ScriptThere.T4 : Bool × List (List Nat × List Nat) := (true, [([], []), ([0], [0]), ([1], [1]), ([2], [2]), ([3, 2], [2, 3]), ([2, 4], [2, 4]), ([5, 2], [5]), ([6], [6]), ([6], [6]), ([8, 6, 6], [6, 8]), ([7, 9, 9, 6], [6, 7, 9]), ([6, 10], [6, 10]), ([11, 10, 0, 1, 2, 3, 4, 5, 6, 7, 8, 9, 10, 11], [11])])
def barrowlaw24_ScriptThere.B4 : List Nat := [0, 1, 3, 7, 15, 31, 63, 127, 127, 383, 1023, 2047, 4095]
theorem barrowlaw24_ScriptThere.tab4 : rtab .any (opsOf Tryd.f11 4) = barrowlaw24_ScriptThere.T4 := by kernel_rfl
theorem barrowlaw24_ScriptThere.bits4 : waitsOk barrowlaw24_ScriptThere.T4.2 barrowlaw24_ScriptThere.B4 = true := by kernel_rfl
set_option maxHeartbeats 8000000 in
set_option maxRecDepth 100000 in
theorem barrowlaw24_ScriptThere.calls (k : Nat) (a0_0 : Int) (a0_1 : Int) (a0_2 : Int) (a0_3 : Int) (a0_4 : Int) (a0_5 : Int) (A0_6 : Option Addr) (c0_6 : Nat) (l0_6 : List (S29)) (r : Bool) (w : World) (hTab : Aside0 (Tab w)) (hTabE : Aside0 (TabE w)) (hTabM : Aside0 (TabM w)) (hr0_6 : Kd.C k29 w A0_6 l0_6.length l0_6) (hc0_6 : l0_6.length ≤ c0_6) (h : barrowlaw24_ScriptThere.f k a0_0 a0_1 a0_2 a0_3 a0_4 a0_5 l0_6 = some r) :
  Calls Tryd.prog 11 #[.agg #[.int .i64 a0_0, .int .i64 a0_1, .int .i64 a0_2, .int .i64 a0_3, .int .i64 a0_4, .int .i64 a0_5, .slice A0_6 l0_6.length c0_6]] w fun e w' => e = .returned (.bool r) ∧ Below w.heap.size w w' := by
 have hu26 := Tryd.underlying26
 have HR0_6 := Aside0.mk hr0_6
 have HC0_6 := Aside0.mk hc0_6
 clear hr0_6 hc0_6
 have HB := Aside0.mk (Below.refl w.heap.size w)
 have H : ((barrowlaw24_awake.f k).bind fun t579 => (if t579 = true then ((script_Print.f a0_0 a0_1 a0_2 a0_3 a0_4 a0_5 l0_6).bind fun t580 => ((script_Parse.f k t580).bind fun bt581 => (if bt581.2.2.2.2.2.2.2.2 = 0 then (if bt581.2.2.2.2.2.2.2.1 = 0 then ((barrowlaw24_plain.f k a0_0 a0_1 a0_2 a0_3 a0_4 a0_5 l0_6).bind fun bt593 => ((barrowref24_Equal.f k bt581.1 bt581.2.1 bt581.2.2.1 bt581.2.2.2.1 bt581.2.2.2.2.1 bt581.2.2.2.2.2.1 bt581.2.2.2.2.2.2.1 bt593.1 bt593.2.1 bt593.2.2.1 bt593.2.2.2.1 bt593.2.2.2.2.1 bt593.2.2.2.2.2.1 bt593.2.2.2.2.2.2).bind fun t602 => (some t602))) else (some false)) else (some false)))) else (some false))) = some r := h
 clear h
 replace H := Option.bind_eq_some_iff.mp H
 obtain ⟨t579, A20, H⟩ := H
 replace H : (if t579 = true then ((script_Print.f a0_0 a0_1 a0_2 a0_3 a0_4 a0_5 l0_6).bind fun t580 => ((script_Parse.f k t580).bind fun bt581 => (if bt581.2.2.2.2.2.2.2.2 = 0 then (if bt581.2.2.2.2.2.2.2.1 = 0 then ((barrowlaw24_plain.f k a0_0 a0_1 a0_2 a0_3 a0_4 a0_5 l0_6).bind fun bt593 => ((barrowref24_Equal.f k bt581.1 bt581.2.1 bt581.2.2.1 bt581.2.2.2.1 bt581.2.2.2.2.1 bt581.2.2.2.2.2.1 bt581.2.2.2.2.2.2.1 bt593.1 bt593.2.1 bt593.2.2.1 bt593.2.2.2.1 bt593.2.2.2.2.1 bt593.2.2.2.2.2.1 bt593.2.2.2.2.2.2).bind fun t602 => (some t602))) else (some false)) else (some false)))) else (some false)) = some r := H
 have A2 := Aside0.mk A20
 clear A20
 by_cases c3 : t579 = true
 ·subst c3
  have H1 : ((script_Print.f a0_0 a0_1 a0_2 a0_3 a0_4 a0_5 l0_6).bind fun t580 => ((script_Parse.f k t580).bind fun bt581 => (if bt581.2.2.2.2.2.2.2.2 = 0 then (if bt581.2.2.2.2.2.2.2.1 = 0 then ((barrowlaw24_plain.f k a0_0 a0_1 a0_2 a0_3 a0_4 a0_5 l0_6).bind fun bt593 => ((barrowref24_Equal.f k bt581.1 bt581.2.1 bt581.2.2.1 bt581.2.2.2.1 bt581.2.2.2.2.1 bt581.2.2.2.2.2.1 bt581.2.2.2.2.2.2.1 bt593.1 bt593.2.1 bt593.2.2.1 bt593.2.2.2.1 bt593.2.2.2.2.1 bt593.2.2.2.2.2.1 bt593.2.2.2.2.2.2).bind fun t602 => (some t602))) else (some false)) else (some false)))) = some r := by rw [if_pos rfl] at H; exact H
  clear H
  have H := H1
  clear H1
  replace H := Option.bind_eq_some_iff.mp H
  obtain ⟨t580, A40, H⟩ := H
  replace H : ((script_Parse.f k t580).bind fun bt581 => (if bt581.2.2.2.2.2.2.2.2 = 0 then (if bt581.2.2.2.2.2.2.2.1 = 0 then ((barrowlaw24_plain.f k a0_0 a0_1 a0_2 a0_3 a0_4 a0_5 l0_6).bind fun bt593 => ((barrowref24_Equal.f k bt581.1 bt581.2.1 bt581.2.2.1 bt581.2.2.2.1 bt581.2.2.2.2.1 bt581.2.2.2.2.2.1 bt581.2.2.2.2.2.2.1 bt593.1 bt593.2.1 bt593.2.2.1 bt593.2.2.2.1 bt593.2.2.2.2.1 bt593.2.2.2.2.2.1 bt593.2.2.2.2.2.2).bind fun t602 => (some t602))) else (some false)) else (some false))) = some r := H
  have A4 := Aside0.mk A40
  clear A40
  replace H := Option.bind_eq_some_iff.mp H
  obtain ⟨⟨t581, t582, t583, t584, t585, t586, t587, t590, t591⟩, A50, H⟩ := H
  replace H : (if t591 = 0 then (if t590 = 0 then ((barrowlaw24_plain.f k a0_0 a0_1 a0_2 a0_3 a0_4 a0_5 l0_6).bind fun bt593 => ((barrowref24_Equal.f k t581 t582 t583 t584 t585 t586 t587 bt593.1 bt593.2.1 bt593.2.2.1 bt593.2.2.2.1 bt593.2.2.2.2.1 bt593.2.2.2.2.2.1 bt593.2.2.2.2.2.2).bind fun t602 => (some t602))) else (some false)) else (some false)) = some r := H
  have A5 := Aside0.mk A50
  clear A50
  by_cases c6 : t591 = 0
  ·rw [if_pos c6] at H
   have c6b0 : (t591 == 0) = true := beq_iff_eq.mpr c6
   have c6b1 : (t591 != 0) = false := bne_eq_false_iff_eq.mpr c6
   clear c6
   by_cases c7 : t590 = 0
   ·rw [if_pos c7] at H
    have c7b0 : (t590 == 0) = true := beq_iff_eq.mpr c7
    have c7b1 : (t590 != 0) = false := bne_eq_false_iff_eq.mpr c7
    clear c7
    replace H := Option.bind_eq_some_iff.mp H
    obtain ⟨⟨t593, t594, t595, t596, t597, t598, t599⟩, A80, H⟩ := H
    replace H : ((barrowref24_Equal.f k t581 t582 t583 t584 t585 t586 t587 t593 t594 t595 t596 t597 t598 t599).bind fun t602 => (some t602)) = some r := H
    have A8 := Aside0.mk A80
    clear A80
    replace H := Option.bind_eq_some_iff.mp H
    obtain ⟨t602, A90, H⟩ := H
    replace H : (some t602) = some r := H
    have A9 := Aside0.mk A90
    clear A90
    obtain rfl := Option.some.inj H
    go_enter Tryd.func11, Tryd.ntmps11
    try go_wp2_with (first | ((with_reducible refine gate_dst (N := 1) rfl ?_); refine box_event ?hg (N := 1) ?hd (cs := #[.int .i64 a0_0, .int .i64 a0_1, .int .i64 a0_2, .int .i64 a0_3, .int .i64 a0_4, .int .i64 a0_5, .slice A0_6 l0_6.length c0_6]) (t := 26) ?hr ?_; (case hd => rfl); (case hg => rfl); (case hr => first | (go_simp; done) | (go_simp; rfl)); intro gb578 hg w10 hbox hb; have n0_ := Aside0.mk (below_step (by repeat (first | (with_reducible first | exact HB.out | apply below_alloc | apply pw_below_drewN | apply below_drew1) | exact HB.out)) hb); have n1_ := Aside0.mk (hbox); have n2_ := Aside0.mk ((by rw [hg]; exact (below_size (by repeat (first | (with_reducible first | exact HB.out | apply below_alloc | apply pw_below_drewN | apply below_drew1) | exact HB.out))) : w.heap.size ≤ gb578)); have n3_ := Aside0.mk ((by rw [hg]; exact (below_size (by repeat (first | (with_reducible first | exact HB.out | apply below_alloc | apply pw_below_drewN | apply below_drew1) | exact HB.out))) : w.heap.size ≤ gb578)); clear HB; have HB := n0_; have BK578 := n1_; have GW578 := n2_; have GE578 := n3_; clear n0_ n1_ n2_ n3_; clear hb hbox hg) | ((with_reducible refine gate_callee (f := 16) rfl ?_); refine goesL_ (some 6) rfl rfl Tryd.func16 (by kernel_rfl) rfl #[] rfl (by (try simp only [List.map_toArray, List.map_cons, List.map_nil]); first | done | rfl | (simp only [List.length_drop, List.length_take]; rfl)) ?_; (with_reducible refine (barrowlaw24_awake.calls k  true _ ?tab1_ ?tab2_ A2.out).mono ?_); (case tab1_ => exact tab_keep hTab (by repeat (first | (with_reducible first | exact HB.out | apply below_alloc | apply pw_below_drewN | apply below_drew1) | (with_reducible refine below_set ?_ GE578.out) | (with_reducible refine below_set ?_ GE592.out) | exact HB.out))); (case tab2_ => exact tabE_keep hTabE (by repeat (first | (with_reducible first | exact HB.out | apply below_alloc | apply pw_below_drewN | apply below_drew1) | (with_reducible refine below_set ?_ GE578.out) | (with_reducible refine below_set ?_ GE592.out) | exact HB.out))); rintro e w11 ⟨rfl, hb⟩; refine ⟨_, rfl, ?_⟩; have n0_ := Aside0.mk (blk_below (g := gb578) (o := .cells #[.int .i64 a0_0, .int .i64 a0_1, .int .i64 a0_2, .int .i64 a0_3, .int .i64 a0_4, .int .i64 a0_5, .slice A0_6 l0_6.length c0_6] 26 (0, 0)) (by (with_reducible repeat (first | refine blk_drewN ?_ _ | refine blk_drew ?_ | refine blk_alloc ?_ _)); exact BK578.out) hb); have n1_ := Aside0.mk (below_step (by repeat (first | (with_reducible first | exact HB.out | apply below_alloc | apply pw_below_drewN | apply below_drew1 | refine below_set ?_ GE578.out) | exact HB.out)) hb); clear BK578; clear HB; have BK578 := n0_; have HB := n1_; clear n0_ n1_; (try clear hb); (try clear hb2); (try clear hk); (try clear hi); have hcz12_0 : w11.cell? ⟨gb578, 0, none⟩ = some (.int .i64 a0_0) := (blk_cell BK578.out 0).trans rfl; have hcz12_1 : w11.cell? ⟨gb578, 1, none⟩ = some (.int .i64 a0_1) := (blk_cell BK578.out 1).trans rfl; have hcz12_2 : w11.cell? ⟨gb578, 2, none⟩ = some (.int .i64 a0_2) := (blk_cell BK578.out 2).trans rfl; have hcz12_3 : w11.cell? ⟨gb578, 3, none⟩ = some (.int .i64 a0_3) := (blk_cell BK578.out 3).trans rfl; have hcz12_4 : w11.cell? ⟨gb578, 4, none⟩ = some (.int .i64 a0_4) := (blk_cell BK578.out 4).trans rfl; have hcz12_5 : w11.cell? ⟨gb578, 5, none⟩ = some (.int .i64 a0_5) := (blk_cell BK578.out 5).trans rfl; have hcz12_6 : w11.cell? ⟨gb578, 6, none⟩ = some (.slice A0_6 l0_6.length c0_6) := (blk_cell BK578.out 6).trans rfl; have hfz12_0 := blk_frozen BK578.out 0; have hfz12_1 := blk_frozen BK578.out 1; have hfz12_2 := blk_frozen BK578.out 2; have hfz12_3 := blk_frozen BK578.out 3; have hfz12_4 := blk_frozen BK578.out 4; have hfz12_5 := blk_frozen BK578.out 5; have hfz12_6 := blk_frozen BK578.out 6) | ((with_reducible refine gate_callee (f := 14) rfl ?_); refine goesL_ (some 10) rfl rfl Tryd.func14 (by kernel_rfl) rfl #[.agg #[.int .i64 a0_0, .int .i64 a0_1, .int .i64 a0_2, .int .i64 a0_3, .int .i64 a0_4, .int .i64 a0_5, .slice A0_6 l0_6.length c0_6]] rfl (by (try simp only [List.map_toArray, List.map_cons, List.map_nil]); first | done | rfl | (simp only [List.length_drop, List.length_take]; rfl)) ?_; (with_reducible refine (script_Print.calls a0_0 a0_1 a0_2 a0_3 a0_4 a0_5 _ _ l0_6 t580 _ ?tab3_ ?side1 ?side2 A4.out).mono ?_); (case tab3_ => exact tab_keep hTab (by repeat (first | (with_reducible first | exact HB.out | apply below_alloc | apply pw_below_drewN | apply below_drew1) | (with_reducible refine below_set ?_ GE578.out) | (with_reducible refine below_set ?_ GE592.out) | exact HB.out))); (case side1 => repeat (first | exact (Kd.C_below HR0_6.out HB.out) | (with_reducible refine Kd.C_alloc ?_ _) | (with_reducible refine Kd.C_drewN ?_ _) | (with_reducible refine Kd.C_drew ?_))); (case side2 => exact HC0_6.out); rintro e w13 ⟨rfl, hb⟩; refine ⟨_, rfl, ?_⟩; have n0_ := Aside0.mk (blk_below (g := gb578) (o := .cells #[.int .i64 a0_0, .int .i64 a0_1, .int .i64 a0_2, .int .i64 a0_3, .int .i64 a0_4, .int .i64 a0_5, .slice A0_6 l0_6.length c0_6] 26 (0, 0)) (by (with_reducible repeat (first | refine blk_drewN ?_ _ | refine blk_drew ?_ | refine blk_alloc ?_ _)); exact BK578.out) hb); have n1_ := Aside0.mk (below_step (by repeat (first | (with_reducible first | exact HB.out | apply below_alloc | apply pw_below_drewN | apply below_drew1 | refine below_set ?_ GE578.out) | exact HB.out)) hb); clear BK578; clear HB; have BK578 := n0_; have HB := n1_; clear n0_ n1_; (try clear hb); (try clear hb2); (try clear hk); (try clear hi)) | ((with_reducible refine gate_callee (f := 23) rfl ?_); refine goesL_ (some 11) rfl rfl Tryd.func23 (by kernel_rfl) rfl #[.string t580] rfl (by (try simp only [List.map_toArray, List.map_cons, List.map_nil]); first | done | rfl | (simp only [List.length_drop, List.length_take]; rfl)) ?_; (with_reducible refine (script_Parse.calls k t580 t581 t582 t583 t584 t585 t586 t587 t590 t591 _ ?tab4_ ?tab5_ ?tab6_ A5.out).mono ?_); (case tab4_ => exact tab_keep hTab (by repeat (first | (with_reducible first | exact HB.out | apply below_alloc | apply pw_below_drewN | apply below_drew1) | (with_reducible refine below_set ?_ GE578.out) | (with_reducible refine below_set ?_ GE592.out) | exact HB.out))); (case tab5_ => exact tabE_keep hTabE (by repeat (first | (with_reducible first | exact HB.out | apply below_alloc | apply pw_below_drewN | apply below_drew1) | (with_reducible refine below_set ?_ GE578.out) | (with_reducible refine below_set ?_ GE592.out) | exact HB.out))); (case tab6_ => exact tabM_keep hTabM (by repeat (first | (with_reducible first | exact HB.out | apply below_alloc | apply pw_below_drewN | apply below_drew1) | (with_reducible refine below_set ?_ GE578.out) | (with_reducible refine below_set ?_ GE592.out) | exact HB.out))); rintro e w14 ⟨v588, rfl, ho0, hb⟩; refine ⟨_, rfl, ?_⟩; have n0_ := Aside0.mk (Kd.R_lower ho0 (below_size (by repeat (first | (with_reducible first | exact HB.out | apply below_alloc | apply pw_below_drewN | apply below_drew1 | refine below_set ?_ GE578.out) | exact HB.out)))); have n1_ := Aside0.mk (blk_below (g := gb578) (o := .cells #[.int .i64 a0_0, .int .i64 a0_1, .int .i64 a0_2, .int .i64 a0_3, .int .i64 a0_4, .int .i64 a0_5, .slice A0_6 l0_6.length c0_6] 26 (0, 0)) (by (with_reducible repeat (first | refine blk_drewN ?_ _ | refine blk_drew ?_ | refine blk_alloc ?_ _)); exact BK578.out) hb); have n2_ := Aside0.mk (below_step (by repeat (first | (with_reducible first | exact HB.out | apply below_alloc | apply pw_below_drewN | apply below_drew1 | refine below_set ?_ GE578.out) | exact HB.out)) hb); clear BK578; clear HB; have HO589 := n0_; have BK578 := n1_; have HB := n2_; clear n0_ n1_ n2_; (try clear hb); (try clear hb2); (try clear hk); (try clear hi); (try clear ho0)) | ((with_reducible refine gate_dst (N := 3) rfl ?_); refine box_event ?hg (N := 3) ?hd (cs := #[.int .i64 0, .int .i64 0, .int .i64 0, .int .i64 0, .int .i64 0, .int .i64 0, .slice none 0 0]) (t := 26) ?hr ?_; (case hd => rfl); (case hg => rfl); (case hr => first | (go_simp; done) | (go_simp; rfl)); intro gb592 hg w15 hbox hb; have n0_ := Aside0.mk (Kd.R_below (by (with_reducible repeat (first | apply Kd.R_alloc | apply Kd.R_drewN | apply Kd.R_drew)); exact HO589.out) hb); have n1_ := Aside0.mk (blk_below (g := gb578) (o := .cells #[.int .i64 a0_0, .int .i64 a0_1, .int .i64 a0_2, .int .i64 a0_3, .int .i64 a0_4, .int .i64 a0_5, .slice A0_6 l0_6.length c0_6] 26 (0, 0)) (by (with_reducible repeat (first | refine blk_drewN ?_ _ | refine blk_drew ?_ | refine blk_alloc ?_ _)); exact BK578.out) hb); have n2_ := Aside0.mk (below_step (by repeat (first | (with_reducible first | exact HB.out | apply below_alloc | apply pw_below_drewN | apply below_drew1 | refine below_set ?_ GE578.out) | exact HB.out)) hb); have n3_ := Aside0.mk (hbox); have n4_ := Aside0.mk ((by rw [hg]; exact (below_size (by repeat (first | (with_reducible first | exact HB.out | apply below_alloc | apply pw_below_drewN | apply below_drew1 | refine below_set ?_ GE578.out) | exact HB.out))) : w.heap.size ≤ gb592)); have n5_ := Aside0.mk ((by rw [hg]; exact (below_size (by repeat (first | (with_reducible first | exact HB.out | apply below_alloc | apply pw_below_drewN | apply below_drew1 | refine below_set ?_ GE578.out) | exact HB.out))) : w.heap.size ≤ gb592)); have n6_ := Aside0.mk ((by rw [hg]; exact Nat.ne_of_lt (blk_lt (g := gb578) (o := .cells #[.int .i64 a0_0, .int .i64 a0_1, .int .i64 a0_2, .int .i64 a0_3, .int .i64 a0_4, .int .i64 a0_5, .slice A0_6 l0_6.length c0_6] 26 (0, 0)) (by (with_reducible repeat (first | refine blk_drewN ?_ _ | refine blk_drew ?_ | refine blk_alloc ?_ _)); exact BK578.out)) : gb578 ≠ gb592)); have n7_ := Aside0.mk ((by rw [hg]; exact Nat.ne_of_gt (blk_lt (g := gb578) (o := .cells #[.int .i64 a0_0, .int .i64 a0_1, .int .i64 a0_2, .int .i64 a0_3, .int .i64 a0_4, .int .i64 a0_5, .slice A0_6 l0_6.length c0_6] 26 (0, 0)) (by (with_reducible repeat (first | refine blk_drewN ?_ _ | refine blk_drew ?_ | refine blk_alloc ?_ _)); exact BK578.out)) : gb592 ≠ gb578)); clear HO589; clear BK578; clear HB; have HO589 := n0_; have BK578 := n1_; have HB := n2_; have BK592 := n3_; have GW592 := n4_; have GE592 := n5_; have NB578_592 := n6_; have NB592_578 := n7_; clear n0_ n1_ n2_ n3_ n4_ n5_ n6_ n7_; clear hb hbox hg; have hnb16 := NB592_578.out; have hnc16 := NB578_592.out; have hcz17_0 : w15.cell? ⟨gb592, 0, none⟩ = some (.int .i64 0) := (blk_cell BK592.out 0).trans rfl; have hcz17_1 : w15.cell? ⟨gb592, 1, none⟩ = some (.int .i64 0) := (blk_cell BK592.out 1).trans rfl; have hcz17_2 : w15.cell? ⟨gb592, 2, none⟩ = some (.int .i64 0) := (blk_cell BK592.out 2).trans rfl; have hcz17_3 : w15.cell? ⟨gb592, 3, none⟩ = some (.int .i64 0) := (blk_cell BK592.out 3).trans rfl; have hcz17_4 : w15.cell? ⟨gb592, 4, none⟩ = some (.int .i64 0) := (blk_cell BK592.out 4).trans rfl; have hcz17_5 : w15.cell? ⟨gb592, 5, none⟩ = some (.int .i64 0) := (blk_cell BK592.out 5).trans rfl; have hcz17_6 : w15.cell? ⟨gb592, 6, none⟩ = some (.slice none 0 0) := (blk_cell BK592.out 6).trans rfl; have hfz17_0 := blk_frozen BK592.out 0; have hfz17_1 := blk_frozen BK592.out 1; have hfz17_2 := blk_frozen BK592.out 2; have hfz17_3 := blk_frozen BK592.out 3; have hfz17_4 := blk_frozen BK592.out 4; have hfz17_5 := blk_frozen BK592.out 5; have hfz17_6 := blk_frozen BK592.out 6; obtain ⟨Ao18, co18, eo18⟩ := Kd.R_slice HO589.out; subst eo18))
    have n0_ : Aside0 (Kd.R k29 29 (((((((w15.setCell ⟨gb592, 0, none⟩ (.int .i64 t581)).setCell ⟨gb592, 1, none⟩ (.int .i64 t582)).setCell ⟨gb592, 2, none⟩ (.int .i64 t583)).setCell ⟨gb592, 3, none⟩ (.int .i64 t584)).setCell ⟨gb592, 4, none⟩ (.int .i64 t585)).setCell ⟨gb592, 5, none⟩ (.int .i64 t586)).setCell ⟨gb592, 6, none⟩ (.slice Ao18 t587.length co18)) w.heap.size (fun _ => True) (.slice Ao18 t587.length co18) t587) := ⟨by (with_reducible repeat (first | apply Kd.R_alloc | apply Kd.R_drewN | apply Kd.R_drew)); exact Kd.R_mono (Kd.R_far (p := ⟨gb592, 6, none⟩) (Kd.R_far (p := ⟨gb592, 5, none⟩) (Kd.R_far (p := ⟨gb592, 4, none⟩) (Kd.R_far (p := ⟨gb592, 3, none⟩) (Kd.R_far (p := ⟨gb592, 2, none⟩) (Kd.R_far (p := ⟨gb592, 1, none⟩) (Kd.R_far (p := ⟨gb592, 0, none⟩) (Kd.R_types HO589.out BK592.out (by decide)) (fun _ hk => hk.2) (.int .i64 t581)) (fun _ hk => hk.2) (.int .i64 t582)) (fun _ hk => hk.2) (.int .i64 t583)) (fun _ hk => hk.2) (.int .i64 t584)) (fun _ hk => hk.2) (.int .i64 t585)) (fun _ hk => hk.2) (.int .i64 t586)) (fun _ hk => hk.2) (.slice Ao18 t587.length co18)) (fun _ hk => trivial)⟩
    have n1_ : Aside0 ((((((((w15.setCell ⟨gb592, 0, none⟩ (.int .i64 t581)).setCell ⟨gb592, 1, none⟩ (.int .i64 t582)).setCell ⟨gb592, 2, none⟩ (.int .i64 t583)).setCell ⟨gb592, 3, none⟩ (.int .i64 t584)).setCell ⟨gb592, 4, none⟩ (.int .i64 t585)).setCell ⟨gb592, 5, none⟩ (.int .i64 t586)).setCell ⟨gb592, 6, none⟩ (.slice Ao18 t587.length co18)).heap[gb578]? = some (.cells #[.int .i64 a0_0, .int .i64 a0_1, .int .i64 a0_2, .int .i64 a0_3, .int .i64 a0_4, .int .i64 a0_5, .slice A0_6 l0_6.length c0_6] 26 (0, 0))) := ⟨by (with_reducible repeat (first | refine blk_drewN ?_ _ | refine blk_drew ?_ | refine blk_alloc ?_ _)); refine blk_far ?_ NB578_592.out _; (with_reducible repeat (first | refine blk_drewN ?_ _ | refine blk_drew ?_ | refine blk_alloc ?_ _)); refine blk_far ?_ NB578_592.out _; (with_reducible repeat (first | refine blk_drewN ?_ _ | refine blk_drew ?_ | refine blk_alloc ?_ _)); refine blk_far ?_ NB578_592.out _; (with_reducible repeat (first | refine blk_drewN ?_ _ | refine blk_drew ?_ | refine blk_alloc ?_ _)); refine blk_far ?_ NB578_592.out _; (with_reducible repeat (first | refine blk_drewN ?_ _ | refine blk_drew ?_ | refine blk_alloc ?_ _)); refine blk_far ?_ NB578_592.out _; (with_reducible repeat (first | refine blk_drewN ?_ _ | refine blk_drew ?_ | refine blk_alloc ?_ _)); refine blk_far ?_ NB578_592.out _; (with_reducible repeat (first | refine blk_drewN ?_ _ | refine blk_drew ?_ | refine blk_alloc ?_ _)); refine blk_far ?_ NB578_592.out _; (with_reducible repeat (first | refine blk_drewN ?_ _ | refine blk_drew ?_ | refine blk_alloc ?_ _)); exact BK578.out⟩
    have n2_ : Aside0 ((((((((w15.setCell ⟨gb592, 0, none⟩ (.int .i64 t581)).setCell ⟨gb592, 1, none⟩ (.int .i64 t582)).setCell ⟨gb592, 2, none⟩ (.int .i64 t583)).setCell ⟨gb592, 3, none⟩ (.int .i64 t584)).setCell ⟨gb592, 4, none⟩ (.int .i64 t585)).setCell ⟨gb592, 5, none⟩ (.int .i64 t586)).setCell ⟨gb592, 6, none⟩ (.slice Ao18 t587.length co18)).heap[gb592]? = some (.cells #[.int .i64 t581, .int .i64 t582, .int .i64 t583, .int .i64 t584, .int .i64 t585, .int .i64 t586, .slice Ao18 t587.length co18] 26 (0, 0))) := ⟨by (with_reducible repeat (first | refine blk_drewN ?_ _ | refine blk_drew ?_ | refine blk_alloc ?_ _)); refine blk_put (cs := #[.int .i64 t581, .int .i64 t582, .int .i64 t583, .int .i64 t584, .int .i64 t585, .int .i64 t586, .slice none 0 0]) ?_ 6 _ rfl; (with_reducible repeat (first | refine blk_drewN ?_ _ | refine blk_drew ?_ | refine blk_alloc ?_ _)); refine blk_put (cs := #[.int .i64 t581, .int .i64 t582, .int .i64 t583, .int .i64 t584, .int .i64 t585, .int .i64 0, .slice none 0 0]) ?_ 5 _ rfl; (with_reducible repeat (first | refine blk_drewN ?_ _ | refine blk_drew ?_ | refine blk_alloc ?_ _)); refine blk_put (cs := #[.int .i64 t581, .int .i64 t582, .int .i64 t583, .int .i64 t584, .int .i64 0, .int .i64 0, .slice none 0 0]) ?_ 4 _ rfl; (with_reducible repeat (first | refine blk_drewN ?_ _ | refine blk_drew ?_ | refine blk_alloc ?_ _)); refine blk_put (cs := #[.int .i64 t581, .int .i64 t582, .int .i64 t583, .int .i64 0, .int .i64 0, .int .i64 0, .slice none 0 0]) ?_ 3 _ rfl; (with_reducible repeat (first | refine blk_drewN ?_ _ | refine blk_drew ?_ | refine blk_alloc ?_ _)); refine blk_put (cs := #[.int .i64 t581, .int .i64 t582, .int .i64 0, .int .i64 0, .int .i64 0, .int .i64 0, .slice none 0 0]) ?_ 2 _ rfl; (with_reducible repeat (first | refine blk_drewN ?_ _ | refine blk_drew ?_ | refine blk_alloc ?_ _)); refine blk_put (cs := #[.int .i64 t581, .int .i64 0, .int .i64 0, .int .i64 0, .int .i64 0, .int .i64 0, .slice none 0 0]) ?_ 1 _ rfl; (with_reducible repeat (first | refine blk_drewN ?_ _ | refine blk_drew ?_ | refine blk_alloc ?_ _)); refine blk_put (cs := #[.int .i64 0, .int .i64 0, .int .i64 0, .int .i64 0, .int .i64 0, .int .i64 0, .slice none 0 0]) ?_ 0 _ rfl; (with_reducible repeat (first | refine blk_drewN ?_ _ | refine blk_drew ?_ | refine blk_alloc ?_ _)); exact BK592.out⟩
    have n3_ : Aside0 (Below w.heap.size w (((((((w15.setCell ⟨gb592, 0, none⟩ (.int .i64 t581)).setCell ⟨gb592, 1, none⟩ (.int .i64 t582)).setCell ⟨gb592, 2, none⟩ (.int .i64 t583)).setCell ⟨gb592, 3, none⟩ (.int .i64 t584)).setCell ⟨gb592, 4, none⟩ (.int .i64 t585)).setCell ⟨gb592, 5, none⟩ (.int .i64 t586)).setCell ⟨gb592, 6, none⟩ (.slice Ao18 t587.length co18))) := ⟨by repeat (first | (with_reducible first | exact HB.out | apply below_alloc | apply pw_below_drewN | apply below_drew1 | refine below_set ?_ GE578.out | refine below_set ?_ GE592.out) | exact HB.out)⟩
    (try clear HO589)
    (try clear BK578)
    (try clear BK592)
    (try clear HB)
    generalize (((((((w15.setCell ⟨gb592, 0, none⟩ (.int .i64 t581)).setCell ⟨gb592, 1, none⟩ (.int .i64 t582)).setCell ⟨gb592, 2, none⟩ (.int .i64 t583)).setCell ⟨gb592, 3, none⟩ (.int .i64 t584)).setCell ⟨gb592, 4, none⟩ (.int .i64 t585)).setCell ⟨gb592, 5, none⟩ (.int .i64 t586)).setCell ⟨gb592, 6, none⟩ (.slice Ao18 t587.length co18)) = w19 at n0_ n1_ n2_ n3_ ⊢
    have HO589 := n0_
    have BK578 := n1_
    have BK592 := n2_
    have HB := n3_
    clear n0_ n1_ n2_ n3_
    have n0_ := Aside0.mk (Kd.R_drew HO589.out)
    have n1_ := Aside0.mk (blk_drew BK578.out)
    have n2_ := Aside0.mk (blk_drew BK592.out)
    have n3_ := Aside0.mk (below_drew1 HB.out)
    clear HO589
    clear BK578
    clear BK592
    clear HB
    have HO589 := n0_
    have BK578 := n1_
    have BK592 := n2_
    have HB := n3_
    clear n0_ n1_ n2_ n3_
    refine start_ (n := 13) (S := fun w' => w'.cell? ⟨gb592, 0, none⟩ = some (.int .i64 t581) ∧ w'.cell? ⟨gb592, 1, none⟩ = some (.int .i64 t582) ∧ w'.cell? ⟨gb592, 2, none⟩ = some (.int .i64 t583) ∧ w'.cell? ⟨gb592, 3, none⟩ = some (.int .i64 t584) ∧ w'.cell? ⟨gb592, 4, none⟩ = some (.int .i64 t585) ∧ w'.cell? ⟨gb592, 5, none⟩ = some (.int .i64 t586) ∧ w'.cell? ⟨gb592, 6, none⟩ = some (.slice Ao18 t587.length co18) ∧ w'.cell? ⟨gb578, 0, none⟩ = some (.int .i64 a0_0) ∧ w'.cell? ⟨gb578, 1, none⟩ = some (.int .i64 a0_1) ∧ w'.cell? ⟨gb578, 2, none⟩ = some (.int .i64 a0_2) ∧ w'.cell? ⟨gb578, 3, none⟩ = some (.int .i64 a0_3) ∧ w'.cell? ⟨gb578, 4, none⟩ = some (.int .i64 a0_4) ∧ w'.cell? ⟨gb578, 5, none⟩ = some (.int .i64 a0_5) ∧ w'.cell? ⟨gb578, 6, none⟩ = some (.slice A0_6 l0_6.length c0_6)) (ds := []) #[false, false, false, false, false, false, false, false, false, false, false, false, false] (by kernel_rfl) rfl rfl ⟨(blk_cell BK592.out 0).trans rfl, (blk_cell BK592.out 1).trans rfl, (blk_cell BK592.out 2).trans rfl, (blk_cell BK592.out 3).trans rfl, (blk_cell BK592.out 4).trans rfl, (blk_cell BK592.out 5).trans rfl, (blk_cell BK592.out 6).trans rfl, (blk_cell BK578.out 0).trans rfl, (blk_cell BK578.out 1).trans rfl, (blk_cell BK578.out 2).trans rfl, (blk_cell BK578.out 3).trans rfl, (blk_cell BK578.out 4).trans rfl, (blk_cell BK578.out 5).trans rfl, (blk_cell BK578.out 6).trans rfl⟩ (fun hHeld => ?_); refine with_tabW barrowlaw24_ScriptThere.tab4 barrowlaw24_ScriptThere.bits4 (fun HT_ HW_ => ?_)
    generalize w19.drew = w20 at HO589 BK578 BK592 HB hHeld ⊢
    refine pure_ (i := 0) (N := some 15) (v := ?_) (a' := ?_) #[true, false, false, false, false, false, false, false, false, false, false, false, false] rfl rfl (any_of HT_.out (by kernel_rfl)) (fun _ _ _ h => h) (Or.inl ⟨by rfl, ?_⟩) ?_ ?_
    rotate_left
    ·intro w'
     go_simp
     with_reducible rfl
    rotate_left
    ·simp only [Act.put, List.setIfInBounds_toArray, List.set_cons_zero, List.set_cons_succ, i64_w, i32_w]
     rfl
    refine pure_ (i := 1) (N := some 16) (v := ?_) (a' := ?_) #[true, true, false, false, false, false, false, false, false, false, false, false, false] rfl rfl (any_of HT_.out (by kernel_rfl)) (fun _ _ _ h => h) (Or.inl ⟨by rfl, ?_⟩) ?_ ?_
    rotate_left
    ·intro w'
     go_simp
     with_reducible rfl
    rotate_left
    ·simp only [Act.put, List.setIfInBounds_toArray, List.set_cons_zero, List.set_cons_succ, i64_w, i32_w]
     rfl
    refine pure_ (i := 2) (N := some 17) (v := ?_) (a' := ?_) #[true, true, true, false, false, false, false, false, false, false, false, false, false] rfl rfl (any_of HT_.out (by kernel_rfl)) (fun _ _ _ h => h) (Or.inl ⟨by rfl, ?_⟩) ?_ ?_
    rotate_left
    ·intro w'
     go_simp
     with_reducible rfl
    rotate_left
    ·simp only [Act.put, List.setIfInBounds_toArray, List.set_cons_zero, List.set_cons_succ, i64_w, i32_w]
     rfl
    refine pure_ (i := 3) (N := some 18) (v := ?_) (a' := ?_) #[true, true, true, true, false, false, false, false, false, false, false, false, false] rfl rfl (any_of HT_.out (by kernel_rfl)) (fun _ _ _ h => h) (Or.inl ⟨by rfl, ?_⟩) ?_ ?_
    rotate_left
    ·intro w'
     go_simp
     with_reducible rfl
    rotate_left
    ·simp only [Act.put, List.setIfInBounds_toArray, List.set_cons_zero, List.set_cons_succ, i64_w, i32_w]
     rfl
    refine pure_ (i := 4) (N := some 19) (v := ?_) (a' := ?_) #[true, true, true, true, true, false, false, false, false, false, false, false, false] rfl rfl (any_of HT_.out (by kernel_rfl)) (fun _ _ _ h => h) (Or.inl ⟨by rfl, ?_⟩) ?_ ?_
    rotate_left
    ·intro w'
     go_simp
     with_reducible rfl
    rotate_left
    ·simp only [Act.put, List.setIfInBounds_toArray, List.set_cons_zero, List.set_cons_succ, i64_w, i32_w]
     rfl
    refine pure_ (i := 5) (N := some 20) (v := ?_) (a' := ?_) #[true, true, true, true, true, true, false, false, false, false, false, false, false] rfl rfl (any_of HT_.out (by kernel_rfl)) (fun _ _ _ h => h) (Or.inl ⟨by rfl, ?_⟩) ?_ ?_
    rotate_left
    ·intro w'
     go_simp
     with_reducible rfl
    rotate_left
    ·simp only [Act.put, List.setIfInBounds_toArray, List.set_cons_zero, List.set_cons_succ, i64_w, i32_w]
     rfl
    refine pure_ (i := 6) (N := some 21) (v := ?_) (a' := ?_) #[true, true, true, true, true, true, true, false, false, false, false, false, false] rfl rfl (any_of HT_.out (by kernel_rfl)) (fun _ _ _ h => h) (Or.inl ⟨by rfl, ?_⟩) ?_ ?_
    rotate_left
    ·intro w'
     go_simp
     with_reducible rfl
    rotate_left
    ·simp only [Act.put, List.setIfInBounds_toArray, List.set_cons_zero, List.set_cons_succ, i64_w, i32_w]
     rfl
    refine take_ (i := 7) (N := some 22) (v := ?_) (a' := ?_) #[true, true, true, true, true, true, true, true, false, false, false, false, false] rfl rfl (take_ofW HT_.out HW_.out (by kernel_rfl)) (fun _ _ _ h => h) (Or.inl ⟨by rfl, ?_⟩) hHeld ?_ ?_
    rotate_left
    ·rintro w' ⟨s0, s1, s2, s3, s4, s5, s6, s7, s8, s9, s10, s11, s12, s13⟩
     go_simp
     with_reducible rfl
    rotate_left
    ·simp only [Act.put, List.setIfInBounds_toArray, List.set_cons_zero, List.set_cons_succ, i64_w, i32_w]
     rfl
    refine take_ (i := 8) (N := some 23) (v := ?_) (a' := ?_) #[true, true, true, true, true, true, true, true, true, false, false, false, false] rfl rfl (take_ofW HT_.out HW_.out (by kernel_rfl)) (fun _ _ _ h => h) (Or.inl ⟨by rfl, ?_⟩) hHeld ?_ ?_
    rotate_left
    ·rintro w' ⟨s0, s1, s2, s3, s4, s5, s6, s7, s8, s9, s10, s11, s12, s13⟩
     go_simp
     with_reducible rfl
    rotate_left
    ·simp only [Act.put, List.setIfInBounds_toArray, List.set_cons_zero, List.set_cons_succ, i64_w, i32_w]
     rfl
    refine one_ (i := 9) (N := some 24) #[true, true, true, true, true, true, true, true, true, true, false, false, false] rfl rfl (one_of HT_.out (by kernel_rfl)) (by decide) (fun K hK => ?_)
    refine goes_ Tryd.func28 (by kernel_rfl) rfl #[.agg #[.int .i64 a0_0, .int .i64 a0_1, .int .i64 a0_2, .int .i64 a0_3, .int .i64 a0_4, .int .i64 a0_5, .slice A0_6 l0_6.length c0_6]] (by rfl) rfl rfl (by (try simp only [List.map_toArray, List.map_cons, List.map_nil]); first | done | rfl | (simp only [List.length_drop, List.length_take]; rfl)) ?_
    with_reducible refine (barrowlaw24_plain.calls k a0_0 a0_1 a0_2 a0_3 a0_4 a0_5 _ _ l0_6 t593 t594 t595 t596 t597 t598 t599 _ ?side1 ?side2 A8.out).mono ?_
    (case side1 => repeat (first | exact (Kd.C_below HR0_6.out HB.out) | (with_reducible refine Kd.C_alloc ?_ _) | (with_reducible refine Kd.C_drewN ?_ _) | (with_reducible refine Kd.C_drew ?_)))
    (case side2 => exact HC0_6.out)
    rintro e w21 ⟨v600, rfl, ho0, hb⟩
    refine ⟨_, rfl, ?_⟩
    have n0_ := Aside0.mk (Kd.R_elder' (by (with_reducible repeat (first | apply Kd.R_alloc | apply Kd.R_drewN | apply Kd.R_drew)); exact HO589.out) (Kd.R_base ho0) hb)
    have n1_ := Aside0.mk (Kd.R_lower (Kd.R_new' ho0 (Kd.R_lt (by (with_reducible repeat (first | apply Kd.R_alloc | apply Kd.R_drewN | apply Kd.R_drew)); exact HO589.out))) (below_size (by repeat (first | (with_reducible first | exact HB.out | apply below_alloc | apply pw_below_drewN | apply below_drew1 | refine below_set ?_ GE578.out | refine below_set ?_ GE592.out) | exact HB.out))))
    have n2_ := Aside0.mk (blk_below (g := gb578) (o := .cells #[.int .i64 a0_0, .int .i64 a0_1, .int .i64 a0_2, .int .i64 a0_3, .int .i64 a0_4, .int .i64 a0_5, .slice A0_6 l0_6.length c0_6] 26 (0, 0)) (by (with_reducible repeat (first | refine blk_drewN ?_ _ | refine blk_drew ?_ | refine blk_alloc ?_ _)); exact BK578.out) hb)
    have n3_ := Aside0.mk (blk_below (g := gb592) (o := .cells #[.int .i64 t581, .int .i64 t582, .int .i64 t583, .int .i64 t584, .int .i64 t585, .int .i64 t586, .slice Ao18 t587.length co18] 26 (0, 0)) (by (with_reducible repeat (first | refine blk_drewN ?_ _ | refine blk_drew ?_ | refine blk_alloc ?_ _)); exact BK592.out) hb)
    have n4_ := Aside0.mk (below_step (by repeat (first | (with_reducible first | exact HB.out | apply below_alloc | apply pw_below_drewN | apply below_drew1 | refine below_set ?_ GE578.out | refine below_set ?_ GE592.out) | exact HB.out)) hb)
    clear HO589
    clear BK578
    clear BK592
    clear HB
    have HO589 := n0_
    have HO601 := n1_
    have BK578 := n2_
    have BK592 := n3_
    have HB := n4_
    clear n0_ n1_ n2_ n3_ n4_
    (try clear hb)
    (try clear hb2)
    (try clear hk)
    (try clear hi)
    (try clear ho0)
    obtain ⟨Ao22, co22, eo22⟩ := Kd.R_slice HO601.out
    (first | subst eo22 | (injection eo22 with f1_ f2_ f3_; have f4_ := f1_.symm; have f5_ := f3_.symm; clear f1_ f2_ f3_; subst f4_; subst f5_))
    refine hK.out _ _ ⟨(blk_cell BK592.out 0).trans rfl, (blk_cell BK592.out 1).trans rfl, (blk_cell BK592.out 2).trans rfl, (blk_cell BK592.out 3).trans rfl, (blk_cell BK592.out 4).trans rfl, (blk_cell BK592.out 5).trans rfl, (blk_cell BK592.out 6).trans rfl, (blk_cell BK578.out 0).trans rfl, (blk_cell BK578.out 1).trans rfl, (blk_cell BK578.out 2).trans rfl, (blk_cell BK578.out 3).trans rfl, (blk_cell BK578.out 4).trans rfl, (blk_cell BK578.out 5).trans rfl, (blk_cell BK578.out 6).trans rfl⟩ (fun hHeld => ?_)
    clear hK K
    refine norm_ (a' := ?_) ?_ ?_
    rotate_left
    ·show Act.put _ (some 24) _ = _
     simp only [Act.put, List.setIfInBounds_toArray, List.set_cons_zero, List.set_cons_succ, i64_w, i32_w]
     rfl
    refine one_ (i := 10) (N := some 25) #[true, true, true, true, true, true, true, true, true, true, true, false, false] rfl rfl (one_of HT_.out (by kernel_rfl)) (by decide) (fun K hK => ?_)
    refine goes_ Tryd.func25 (by kernel_rfl) rfl #[.agg #[.int .i64 t581, .int .i64 t582, .int .i64 t583, .int .i64 t584, .int .i64 t585, .int .i64 t586, .slice Ao18 t587.length co18], .agg #[.int .i64 t593, .int .i64 t594, .int .i64 t595, .int .i64 t596, .int .i64 t597, .int .i64 t598, .slice Ao22 t599.length co22]] (by rfl) rfl rfl (by (try simp only [List.map_toArray, List.map_cons, List.map_nil]); first | done | rfl | (simp only [List.length_drop, List.length_take]; rfl)) ?_
    with_reducible refine (barrowref24_Equal.calls k t581 t582 t583 t584 t585 t586 _ _ t587 t593 t594 t595 t596 t597 t598 _ _ t599 t602 _ ?side1 ?side2 ?side3 ?side4 A9.out).mono ?_
    (case side1 => repeat (first | exact (Kd.R_reads' HO589.out).2.2 | (with_reducible refine Kd.C_alloc ?_ _) | (with_reducible refine Kd.C_drewN ?_ _) | (with_reducible refine Kd.C_drew ?_)))
    (case side2 => exact (Kd.R_reads' HO589.out).2.1)
    (case side3 => repeat (first | exact (Kd.R_reads' HO601.out).2.2 | (with_reducible refine Kd.C_alloc ?_ _) | (with_reducible refine Kd.C_drewN ?_ _) | (with_reducible refine Kd.C_drew ?_)))
    (case side4 => exact (Kd.R_reads' HO601.out).2.1)
    rintro e w23 ⟨rfl, hb⟩
    refine ⟨_, rfl, ?_⟩
    have n0_ := Aside0.mk (Kd.R_below (by (with_reducible repeat (first | apply Kd.R_alloc | apply Kd.R_drewN | apply Kd.R_drew)); exact HO589.out) hb)
    have n1_ := Aside0.mk (Kd.R_below (by (with_reducible repeat (first | apply Kd.R_alloc | apply Kd.R_drewN | apply Kd.R_drew)); exact HO601.out) hb)
    have n2_ := Aside0.mk (blk_below (g := gb578) (o := .cells #[.int .i64 a0_0, .int .i64 a0_1, .int .i64 a0_2, .int .i64 a0_3, .int .i64 a0_4, .int .i64 a0_5, .slice A0_6 l0_6.length c0_6] 26 (0, 0)) (by (with_reducible repeat (first | refine blk_drewN ?_ _ | refine blk_drew ?_ | refine blk_alloc ?_ _)); exact BK578.out) hb)
    have n3_ := Aside0.mk (blk_below (g := gb592) (o := .cells #[.int .i64 t581, .int .i64 t582, .int .i64 t583, .int .i64 t584, .int .i64 t585, .int .i64 t586, .slice Ao18 t587.length co18] 26 (0, 0)) (by (with_reducible repeat (first | refine blk_drewN ?_ _ | refine blk_drew ?_ | refine blk_alloc ?_ _)); exact BK592.out) hb)
    have n4_ := Aside0.mk (below_step (by repeat (first | (with_reducible first | exact HB.out | apply below_alloc | apply pw_below_drewN | apply below_drew1 | refine below_set ?_ GE578.out | refine below_set ?_ GE592.out) | exact HB.out)) hb)
    clear HO589
    clear HO601
    clear BK578
    clear BK592
    clear HB
    have HO589 := n0_
    have HO601 := n1_
    have BK578 := n2_
    have BK592 := n3_
    have HB := n4_
    clear n0_ n1_ n2_ n3_ n4_
    (try clear hb)
    (try clear hb2)
    (try clear hk)
    (try clear hi)
    refine hK.out _ _ ⟨(blk_cell BK592.out 0).trans rfl, (blk_cell BK592.out 1).trans rfl, (blk_cell BK592.out 2).trans rfl, (blk_cell BK592.out 3).trans rfl, (blk_cell BK592.out 4).trans rfl, (blk_cell BK592.out 5).trans rfl, (blk_cell BK592.out 6).trans rfl, (blk_cell BK578.out 0).trans rfl, (blk_cell BK578.out 1).trans rfl, (blk_cell BK578.out 2).trans rfl, (blk_cell BK578.out 3).trans rfl, (blk_cell BK578.out 4).trans rfl, (blk_cell BK578.out 5).trans rfl, (blk_cell BK578.out 6).trans rfl⟩ (fun hHeld => ?_)
    clear hK K
    refine norm_ (a' := ?_) ?_ ?_
    rotate_left
    ·show Act.put _ (some 25) _ = _
     simp only [Act.put, List.setIfInBounds_toArray, List.set_cons_zero, List.set_cons_succ, i64_w, i32_w]
     rfl
    refine pure_ (i := 11) (N := some 26) (v := ?_) (a' := ?_) #[true, true, true, true, true, true, true, true, true, true, true, true, false] rfl rfl (any_of HT_.out (by kernel_rfl)) (fun _ _ _ h => h) (Or.inl ⟨by rfl, ?_⟩) ?_ ?_
    rotate_left
    ·intro w'
     go_simp
     with_reducible rfl
    rotate_left
    ·simp only [Act.put, List.setIfInBounds_toArray, List.set_cons_zero, List.set_cons_succ, i64_w, i32_w]
     rfl
    refine pure_ (i := 12) (N := some 2) (v := ?_) (a' := ?_) #[true, true, true, true, true, true, true, true, true, true, true, true, true] rfl rfl (any_of HT_.out (by kernel_rfl)) (fun _ _ _ h => h) (Or.inl ⟨by rfl, ?_⟩) ?_ ?_
    rotate_left
    ·intro w'
     go_simp
     with_reducible rfl
    rotate_left
    ·simp only [Act.put, List.setIfInBounds_toArray, List.set_cons_zero, List.set_cons_succ, i64_w, i32_w]
     rfl
    refine done_ (done_of HT_.out (by kernel_rfl)) ?_
    try go_wp2
    go_ret
    exact ⟨by first | rfl | (simp [errW_none, errW_some] <;> rfl) | (simp [*, errW_none, errW_some] <;> rfl), by repeat (first | (with_reducible first | exact HB.out | apply below_alloc | apply pw_below_drewN | apply below_drew1 | refine below_set ?_ GE578.out | refine below_set ?_ GE592.out) | exact HB.out)⟩
   ·rw [if_neg c7] at H
    have c7b0 : (t590 == 0) = false := beq_eq_false_iff_ne.mpr c7
    have c7b1 : (t590 != 0) = true := bne_iff_ne.mpr c7
    obtain rfl := Option.some.inj H
    go_enter Tryd.func11, Tryd.ntmps11
    try go_wp2_with (first | ((with_reducible refine gate_dst (N := 1) rfl ?_); refine box_event ?hg (N := 1) ?hd (cs := #[.int .i64 a0_0, .int .i64 a0_1, .int .i64 a0_2, .int .i64 a0_3, .int .i64 a0_4, .int .i64 a0_5, .slice A0_6 l0_6.length c0_6]) (t := 26) ?hr ?_; (case hd => rfl); (case hg => rfl); (case hr => first | (go_simp; done) | (go_simp; rfl)); intro gb578 hg w24 hbox hb; have n0_ := Aside0.mk (below_step (by repeat (first | (with_reducible first | exact HB.out | apply below_alloc | apply pw_below_drewN | apply below_drew1) | exact HB.out)) hb); have n1_ := Aside0.mk (hbox); have n2_ := Aside0.mk ((by rw [hg]; exact (below_size (by repeat (first | (with_reducible first | exact HB.out | apply below_alloc | apply pw_below_drewN | apply below_drew1) | exact HB.out))) : w.heap.size ≤ gb578)); have n3_ := Aside0.mk ((by rw [hg]; exact (below_size (by repeat (first | (with_reducible first | exact HB.out | apply below_alloc | apply pw_below_drewN | apply below_drew1) | exact HB.out))) : w.heap.size ≤ gb578)); clear HB; have HB := n0_; have BK578 := n1_; have GW578 := n2_; have GE578 := n3_; clear n0_ n1_ n2_ n3_; clear hb hbox hg) | ((with_reducible refine gate_callee (f := 16) rfl ?_); refine goesL_ (some 6) rfl rfl Tryd.func16 (by kernel_rfl) rfl #[] rfl (by (try simp only [List.map_toArray, List.map_cons, List.map_nil]); first | done | rfl | (simp only [List.length_drop, List.length_take]; rfl)) ?_; (with_reducible refine (barrowlaw24_awake.calls k  true _ ?tab1_ ?tab2_ A2.out).mono ?_); (case tab1_ => exact tab_keep hTab (by repeat (first | (with_reducible first | exact HB.out | apply below_alloc | apply pw_below_drewN | apply below_drew1) | (with_reducible refine below_set ?_ GE578.out) | (with_reducible refine below_set ?_ GE592.out) | exact HB.out))); (case tab2_ => exact tabE_keep hTabE (by repeat (first | (with_reducible first | exact HB.out | apply below_alloc | apply pw_below_drewN | apply below_drew1) | (with_reducible refine below_set ?_ GE578.out) | (with_reducible refine below_set ?_ GE592.out) | exact HB.out))); rintro e w25 ⟨rfl, hb⟩; refine ⟨_, rfl, ?_⟩; have n0_ := Aside0.mk (blk_below (g := gb578) (o := .cells #[.int .i64 a0_0, .int .i64 a0_1, .int .i64 a0_2, .int .i64 a0_3, .int .i64 a0_4, .int .i64 a0_5, .slice A0_6 l0_6.length c0_6] 26 (0, 0)) (by (with_reducible repeat (first | refine blk_drewN ?_ _ | refine blk_drew ?_ | refine blk_alloc ?_ _)); exact BK578.out) hb); have n1_ := Aside0.mk (below_step (by repeat (first | (with_reducible first | exact HB.out | apply below_alloc | apply pw_below_drewN | apply below_drew1 | refine below_set ?_ GE578.out) | exact HB.out)) hb); clear BK578; clear HB; have BK578 := n0_; have HB := n1_; clear n0_ n1_; (try clear hb); (try clear hb2); (try clear hk); (try clear hi); have hcz26_0 : w25.cell? ⟨gb578, 0, none⟩ = some (.int .i64 a0_0) := (blk_cell BK578.out 0).trans rfl; have hcz26_1 : w25.cell? ⟨gb578, 1, none⟩ = some (.int .i64 a0_1) := (blk_cell BK578.out 1).trans rfl; have hcz26_2 : w25.cell? ⟨gb578, 2, none⟩ = some (.int .i64 a0_2) := (blk_cell BK578.out 2).trans rfl; have hcz26_3 : w25.cell? ⟨gb578, 3, none⟩ = some (.int .i64 a0_3) := (blk_cell BK578.out 3).trans rfl; have hcz26_4 : w25.cell? ⟨gb578, 4, none⟩ = some (.int .i64 a0_4) := (blk_cell BK578.out 4).trans rfl; have hcz26_5 : w25.cell? ⟨gb578, 5, none⟩ = some (.int .i64 a0_5) := (blk_cell BK578.out 5).trans rfl; have hcz26_6 : w25.cell? ⟨gb578, 6, none⟩ = some (.slice A0_6 l0_6.length c0_6) := (blk_cell BK578.out 6).trans rfl; have hfz26_0 := blk_frozen BK578.out 0; have hfz26_1 := blk_frozen BK578.out 1; have hfz26_2 := blk_frozen BK578.out 2; have hfz26_3 := blk_frozen BK578.out 3; have hfz26_4 := blk_frozen BK578.out 4; have hfz26_5 := blk_frozen BK578.out 5; have hfz26_6 := blk_frozen BK578.out 6) | ((with_reducible refine gate_callee (f := 14) rfl ?_); refine goesL_ (some 10) rfl rfl Tryd.func14 (by kernel_rfl) rfl #[.agg #[.int .i64 a0_0, .int .i64 a0_1, .int .i64 a0_2, .int .i64 a0_3, .int .i64 a0_4, .int .i64 a0_5, .slice A0_6 l0_6.length c0_6]] rfl (by (try simp only [List.map_toArray, List.map_cons, List.map_nil]); first | done | rfl | (simp only [List.length_drop, List.length_take]; rfl)) ?_; (with_reducible refine (script_Print.calls a0_0 a0_1 a0_2 a0_3 a0_4 a0_5 _ _ l0_6 t580 _ ?tab3_ ?side1 ?side2 A4.out).mono ?_); (case tab3_ => exact tab_keep hTab (by repeat (first | (with_reducible first | exact HB.out | apply below_alloc | apply pw_below_drewN | apply below_drew1) | (with_reducible refine below_set ?_ GE578.out) | (with_reducible refine below_set ?_ GE592.out) | exact HB.out))); (case side1 => repeat (first | exact (Kd.C_below HR0_6.out HB.out) | (with_reducible refine Kd.C_alloc ?_ _) | (with_reducible refine Kd.C_drewN ?_ _) | (with_reducible refine Kd.C_drew ?_))); (case side2 => exact HC0_6.out); rintro e w27 ⟨rfl, hb⟩; refine ⟨_, rfl, ?_⟩; have n0_ := Aside0.mk (blk_below (g := gb578) (o := .cells #[.int .i64 a0_0, .int .i64 a0_1, .int .i64 a0_2, .int .i64 a0_3, .int .i64 a0_4, .int .i64 a0_5, .slice A0_6 l0_6.length c0_6] 26 (0, 0)) (by (with_reducible repeat (first | refine blk_drewN ?_ _ | refine blk_drew ?_ | refine blk_alloc ?_ _)); exact BK578.out) hb); have n1_ := Aside0.mk (below_step (by repeat (first | (with_reducible first | exact HB.out | apply below_alloc | apply pw_below_drewN | apply below_drew1 | refine below_set ?_ GE578.out) | exact HB.out)) hb); clear BK578; clear HB; have BK578 := n0_; have HB := n1_; clear n0_ n1_; (try clear hb); (try clear hb2); (try clear hk); (try clear hi)) | ((with_reducible refine gate_callee (f := 23) rfl ?_); refine goesL_ (some 11) rfl rfl Tryd.func23 (by kernel_rfl) rfl #[.string t580] rfl (by (try simp only [List.map_toArray, List.map_cons, List.map_nil]); first | done | rfl | (simp only [List.length_drop, List.length_take]; rfl)) ?_; (with_reducible refine (script_Parse.calls k t580 t581 t582 t583 t584 t585 t586 t587 t590 t591 _ ?tab4_ ?tab5_ ?tab6_ A5.out).mono ?_); (case tab4_ => exact tab_keep hTab (by repeat (first | (with_reducible first | exact HB.out | apply below_alloc | apply pw_below_drewN | apply below_drew1) | (with_reducible refine below_set ?_ GE578.out) | (with_reducible refine below_set ?_ GE592.out) | exact HB.out))); (case tab5_ => exact tabE_keep hTabE (by repeat (first | (with_reducible first | exact HB.out | apply below_alloc | apply pw_below_drewN | apply below_drew1) | (with_reducible refine below_set ?_ GE578.out) | (with_reducible refine below_set ?_ GE592.out) | exact HB.out))); (case tab6_ => exact tabM_keep hTabM (by repeat (first | (with_reducible first | exact HB.out | apply below_alloc | apply pw_below_drewN | apply below_drew1) | (with_reducible refine below_set ?_ GE578.out) | (with_reducible refine below_set ?_ GE592.out) | exact HB.out))); rintro e w28 ⟨v588, rfl, ho0, hb⟩; refine ⟨_, rfl, ?_⟩; have n0_ := Aside0.mk (Kd.R_lower ho0 (below_size (by repeat (first | (with_reducible first | exact HB.out | apply below_alloc | apply pw_below_drewN | apply below_drew1 | refine below_set ?_ GE578.out) | exact HB.out)))); have n1_ := Aside0.mk (blk_below (g := gb578) (o := .cells #[.int .i64 a0_0, .int .i64 a0_1, .int .i64 a0_2, .int .i64 a0_3, .int .i64 a0_4, .int .i64 a0_5, .slice A0_6 l0_6.length c0_6] 26 (0, 0)) (by (with_reducible repeat (first | refine blk_drewN ?_ _ | refine blk_drew ?_ | refine blk_alloc ?_ _)); exact BK578.out) hb); have n2_ := Aside0.mk (below_step (by repeat (first | (with_reducible first | exact HB.out | apply below_alloc | apply pw_below_drewN | apply below_drew1 | refine below_set ?_ GE578.out) | exact HB.out)) hb); clear BK578; clear HB; have HO589 := n0_; have BK578 := n1_; have HB := n2_; clear n0_ n1_ n2_; (try clear hb); (try clear hb2); (try clear hk); (try clear hi); (try clear ho0)) | ((with_reducible refine gate_dst (N := 3) rfl ?_); refine box_event ?hg (N := 3) ?hd (cs := #[.int .i64 0, .int .i64 0, .int .i64 0, .int .i64 0, .int .i64 0, .int .i64 0, .slice none 0 0]) (t := 26) ?hr ?_; (case hd => rfl); (case hg => rfl); (case hr => first | (go_simp; done) | (go_simp; rfl)); intro gb592 hg w29 hbox hb; have n0_ := Aside0.mk (Kd.R_below (by (with_reducible repeat (first | apply Kd.R_alloc | apply Kd.R_drewN | apply Kd.R_drew)); exact HO589.out) hb); have n1_ := Aside0.mk (blk_below (g := gb578) (o := .cells #[.int .i64 a0_0, .int .i64 a0_1, .int .i64 a0_2, .int .i64 a0_3, .int .i64 a0_4, .int .i64 a0_5, .slice A0_6 l0_6.length c0_6] 26 (0, 0)) (by (with_reducible repeat (first | refine blk_drewN ?_ _ | refine blk_drew ?_ | refine blk_alloc ?_ _)); exact BK578.out) hb); have n2_ := Aside0.mk (below_step (by repeat (first | (with_reducible first | exact HB.out | apply below_alloc | apply pw_below_drewN | apply below_drew1 | refine below_set ?_ GE578.out) | exact HB.out)) hb); have n3_ := Aside0.mk (hbox); have n4_ := Aside0.mk ((by rw [hg]; exact (below_size (by repeat (first | (with_reducible first | exact HB.out | apply below_alloc | apply pw_below_drewN | apply below_drew1 | refine below_set ?_ GE578.out) | exact HB.out))) : w.heap.size ≤ gb592)); have n5_ := Aside0.mk ((by rw [hg]; exact (below_size (by repeat (first | (with_reducible first | exact HB.out | apply below_alloc | apply pw_below_drewN | apply below_drew1 | refine below_set ?_ GE578.out) | exact HB.out))) : w.heap.size ≤ gb592)); have n6_ := Aside0.mk ((by rw [hg]; exact Nat.ne_of_lt (blk_lt (g := gb578) (o := .cells #[.int .i64 a0_0, .int .i64 a0_1, .int .i64 a0_2, .int .i64 a0_3, .int .i64 a0_4, .int .i64 a0_5, .slice A0_6 l0_6.length c0_6] 26 (0, 0)) (by (with_reducible repeat (first | refine blk_drewN ?_ _ | refine blk_drew ?_ | refine blk_alloc ?_ _)); exact BK578.out)) : gb578 ≠ gb592)); have n7_ := Aside0.mk ((by rw [hg]; exact Nat.ne_of_gt (blk_lt (g := gb578) (o := .cells #[.int .i64 a0_0, .int .i64 a0_1, .int .i64 a0_2, .int .i64 a0_3, .int .i64 a0_4, .int .i64 a0_5, .slice A0_6 l0_6.length c0_6] 26 (0, 0)) (by (with_reducible repeat (first | refine blk_drewN ?_ _ | refine blk_drew ?_ | refine blk_alloc ?_ _)); exact BK578.out)) : gb592 ≠ gb578)); clear HO589; clear BK578; clear HB; have HO589 := n0_; have BK578 := n1_; have HB := n2_; have BK592 := n3_; have GW592 := n4_; have GE592 := n5_; have NB578_592 := n6_; have NB592_578 := n7_; clear n0_ n1_ n2_ n3_ n4_ n5_ n6_ n7_; clear hb hbox hg; have hnb30 := NB592_578.out; have hnc30 := NB578_592.out; have hcz31_0 : w29.cell? ⟨gb592, 0, none⟩ = some (.int .i64 0) := (blk_cell BK592.out 0).trans rfl; have hcz31_1 : w29.cell? ⟨gb592, 1, none⟩ = some (.int .i64 0) := (blk_cell BK592.out 1).trans rfl; have hcz31_2 : w29.cell? ⟨gb592, 2, none⟩ = some (.int .i64 0) := (blk_cell BK592.out 2).trans rfl; have hcz31_3 : w29.cell? ⟨gb592, 3, none⟩ = some (.int .i64 0) := (blk_cell BK592.out 3).trans rfl; have hcz31_4 : w29.cell? ⟨gb592, 4, none⟩ = some (.int .i64 0) := (blk_cell BK592.out 4).trans rfl; have hcz31_5 : w29.cell? ⟨gb592, 5, none⟩ = some (.int .i64 0) := (blk_cell BK592.out 5).trans rfl; have hcz31_6 : w29.cell? ⟨gb592, 6, none⟩ = some (.slice none 0 0) := (blk_cell BK592.out 6).trans rfl; have hfz31_0 := blk_frozen BK592.out 0; have hfz31_1 := blk_frozen BK592.out 1; have hfz31_2 := blk_frozen BK592.out 2; have hfz31_3 := blk_frozen BK592.out 3; have hfz31_4 := blk_frozen BK592.out 4; have hfz31_5 := blk_frozen BK592.out 5; have hfz31_6 := blk_frozen BK592.out 6; obtain ⟨Ao32, co32, eo32⟩ := Kd.R_slice HO589.out; subst eo32))
    have n0_ : Aside0 (Kd.R k29 29 (((((((w29.setCell ⟨gb592, 0, none⟩ (.int .i64 t581)).setCell ⟨gb592, 1, none⟩ (.int .i64 t582)).setCell ⟨gb592, 2, none⟩ (.int .i64 t583)).setCell ⟨gb592, 3, none⟩ (.int .i64 t584)).setCell ⟨gb592, 4, none⟩ (.int .i64 t585)).setCell ⟨gb592, 5, none⟩ (.int .i64 t586)).setCell ⟨gb592, 6, none⟩ (.slice Ao32 t587.length co32)) w.heap.size (fun _ => True) (.slice Ao32 t587.length co32) t587) := ⟨by (with_reducible repeat (first | apply Kd.R_alloc | apply Kd.R_drewN | apply Kd.R_drew)); exact Kd.R_mono (Kd.R_far (p := ⟨gb592, 6, none⟩) (Kd.R_far (p := ⟨gb592, 5, none⟩) (Kd.R_far (p := ⟨gb592, 4, none⟩) (Kd.R_far (p := ⟨gb592, 3, none⟩) (Kd.R_far (p := ⟨gb592, 2, none⟩) (Kd.R_far (p := ⟨gb592, 1, none⟩) (Kd.R_far (p := ⟨gb592, 0, none⟩) (Kd.R_types HO589.out BK592.out (by decide)) (fun _ hk => hk.2) (.int .i64 t581)) (fun _ hk => hk.2) (.int .i64 t582)) (fun _ hk => hk.2) (.int .i64 t583)) (fun _ hk => hk.2) (.int .i64 t584)) (fun _ hk => hk.2) (.int .i64 t585)) (fun _ hk => hk.2) (.int .i64 t586)) (fun _ hk => hk.2) (.slice Ao32 t587.length co32)) (fun _ hk => trivial)⟩
    have n1_ : Aside0 ((((((((w29.setCell ⟨gb592, 0, none⟩ (.int .i64 t581)).setCell ⟨gb592, 1, none⟩ (.int .i64 t582)).setCell ⟨gb592, 2, none⟩ (.int .i64 t583)).setCell ⟨gb592, 3, none⟩ (.int .i64 t584)).setCell ⟨gb592, 4, none⟩ (.int .i64 t585)).setCell ⟨gb592, 5, none⟩ (.int .i64 t586)).setCell ⟨gb592, 6, none⟩ (.slice Ao32 t587.length co32)).heap[gb578]? = some (.cells #[.int .i64 a0_0, .int .i64 a0_1, .int .i64 a0_2, .int .i64 a0_3, .int .i64 a0_4, .int .i64 a0_5, .slice A0_6 l0_6.length c0_6] 26 (0, 0))) := ⟨by (with_reducible repeat (first | refine blk_drewN ?_ _ | refine blk_drew ?_ | refine blk_alloc ?_ _)); refine blk_far ?_ NB578_592.out _; (with_reducible repeat (first | refine blk_drewN ?_ _ | refine blk_drew ?_ | refine blk_alloc ?_ _)); refine blk_far ?_ NB578_592.out _; (with_reducible repeat (first | refine blk_drewN ?_ _ | refine blk_drew ?_ | refine blk_alloc ?_ _)); refine blk_far ?_ NB578_592.out _; (with_reducible repeat (first | refine blk_drewN ?_ _ | refine blk_drew ?_ | refine blk_alloc ?_ _)); refine blk_far ?_ NB578_592.out _; (with_reducible repeat (first | refine blk_drewN ?_ _ | refine blk_drew ?_ | refine blk_alloc ?_ _)); refine blk_far ?_ NB578_592.out _; (with_reducible repeat (first | refine blk_drewN ?_ _ | refine blk_drew ?_ | refine blk_alloc ?_ _)); refine blk_far ?_ NB578_592.out _; (with_reducible repeat (first | refine blk_drewN ?_ _ | refine blk_drew ?_ | refine blk_alloc ?_ _)); refine blk_far ?_ NB578_592.out _; (with_reducible repeat (first | refine blk_drewN ?_ _ | refine blk_drew ?_ | refine blk_alloc ?_ _)); exact BK578.out⟩
    have n2_ : Aside0 ((((((((w29.setCell ⟨gb592, 0, none⟩ (.int .i64 t581)).setCell ⟨gb592, 1, none⟩ (.int .i64 t582)).setCell ⟨gb592, 2, none⟩ (.int .i64 t583)).setCell ⟨gb592, 3, none⟩ (.int .i64 t584)).setCell ⟨gb592, 4, none⟩ (.int .i64 t585)).setCell ⟨gb592, 5, none⟩ (.int .i64 t586)).setCell ⟨gb592, 6, none⟩ (.slice Ao32 t587.length co32)).heap[gb592]? = some (.cells #[.int .i64 t581, .int .i64 t582, .int .i64 t583, .int .i64 t584, .int .i64 t585, .int .i64 t586, .slice Ao32 t587.length co32] 26 (0, 0))) := ⟨by (with_reducible repeat (first | refine blk_drewN ?_ _ | refine blk_drew ?_ | refine blk_alloc ?_ _)); refine blk_put (cs := #[.int .i64 t581, .int .i64 t582, .int .i64 t583, .int .i64 t584, .int .i64 t585, .int .i64 t586, .slice none 0 0]) ?_ 6 _ rfl; (with_reducible repeat (first | refine blk_drewN ?_ _ | refine blk_drew ?_ | refine blk_alloc ?_ _)); refine blk_put (cs := #[.int .i64 t581, .int .i64 t582, .int .i64 t583, .int .i64 t584, .int .i64 t585, .int .i64 0, .slice none 0 0]) ?_ 5 _ rfl; (with_reducible repeat (first | refine blk_drewN ?_ _ | refine blk_drew ?_ | refine blk_alloc ?_ _)); refine blk_put (cs := #[.int .i64 t581, .int .i64 t582, .int .i64 t583, .int .i64 t584, .int .i64 0, .int .i64 0, .slice none 0 0]) ?_ 4 _ rfl; (with_reducible repeat (first | refine blk_drewN ?_ _ | refine blk_drew ?_ | refine blk_alloc ?_ _)); refine blk_put (cs := #[.int .i64 t581, .int .i64 t582, .int .i64 t583, .int .i64 0, .int .i64 0, .int .i64 0, .slice none 0 0]) ?_ 3 _ rfl; (with_reducible repeat (first | refine blk_drewN ?_ _ | refine blk_drew ?_ | refine blk_alloc ?_ _)); refine blk_put (cs := #[.int .i64 t581, .int .i64 t582, .int .i64 0, .int .i64 0, .int .i64 0, .int .i64 0, .slice none 0 0]) ?_ 2 _ rfl; (with_reducible repeat (first | refine blk_drewN ?_ _ | refine blk_drew ?_ | refine blk_alloc ?_ _)); refine blk_put (cs := #[.int .i64 t581, .int .i64 0, .int .i64 0, .int .i64 0, .int .i64 0, .int .i64 0, .slice none 0 0]) ?_ 1 _ rfl; (with_reducible repeat (first | refine blk_drewN ?_ _ | refine blk_drew ?_ | refine blk_alloc ?_ _)); refine blk_put (cs := #[.int .i64 0, .int .i64 0, .int .i64 0, .int .i64 0, .int .i64 0, .int .i64 0, .slice none 0 0]) ?_ 0 _ rfl; (with_reducible repeat (first | refine blk_drewN ?_ _ | refine blk_drew ?_ | refine blk_alloc ?_ _)); exact BK592.out⟩
    have n3_ : Aside0 (Below w.heap.size w (((((((w29.setCell ⟨gb592, 0, none⟩ (.int .i64 t581)).setCell ⟨gb592, 1, none⟩ (.int .i64 t582)).setCell ⟨gb592, 2, none⟩ (.int .i64 t583)).setCell ⟨gb592, 3, none⟩ (.int .i64 t584)).setCell ⟨gb592, 4, none⟩ (.int .i64 t585)).setCell ⟨gb592, 5, none⟩ (.int .i64 t586)).setCell ⟨gb592, 6, none⟩ (.slice Ao32 t587.length co32))) := ⟨by repeat (first | (with_reducible first | exact HB.out | apply below_alloc | apply pw_below_drewN | apply below_drew1 | refine below_set ?_ GE578.out | refine below_set ?_ GE592.out) | exact HB.out)⟩
    (try clear HO589)
    (try clear BK578)
    (try clear BK592)
    (try clear HB)
    generalize (((((((w29.setCell ⟨gb592, 0, none⟩ (.int .i64 t581)).setCell ⟨gb592, 1, none⟩ (.int .i64 t582)).setCell ⟨gb592, 2, none⟩ (.int .i64 t583)).setCell ⟨gb592, 3, none⟩ (.int .i64 t584)).setCell ⟨gb592, 4, none⟩ (.int .i64 t585)).setCell ⟨gb592, 5, none⟩ (.int .i64 t586)).setCell ⟨gb592, 6, none⟩ (.slice Ao32 t587.length co32)) = w33 at n0_ n1_ n2_ n3_ ⊢
    have HO589 := n0_
    have BK578 := n1_
    have BK592 := n2_
    have HB := n3_
    clear n0_ n1_ n2_ n3_
    have n0_ := Aside0.mk (Kd.R_drew HO589.out)
    have n1_ := Aside0.mk (blk_drew BK578.out)
    have n2_ := Aside0.mk (blk_drew BK592.out)
    have n3_ := Aside0.mk (below_drew1 HB.out)
    clear HO589
    clear BK578
    clear BK592
    clear HB
    have HO589 := n0_
    have BK578 := n1_
    have BK592 := n2_
    have HB := n3_
    clear n0_ n1_ n2_ n3_
    refine start_ (n := 13) (S := fun w' => True) (ds := []) #[false, false, false, false, false, false, false, false, false, false, false, false, false] (by kernel_rfl) rfl rfl trivial (fun hHeld => ?_); refine with_tabW barrowlaw24_ScriptThere.tab4 barrowlaw24_ScriptThere.bits4 (fun HT_ HW_ => ?_)
    generalize w33.drew = w34 at HO589 BK578 BK592 HB hHeld ⊢
    refine pure_ (i := 0) (N := some 15) (v := ?_) (a' := ?_) #[true, false, false, false, false, false, false, false, false, false, false, false, false] rfl rfl (any_of HT_.out (by kernel_rfl)) (fun _ _ _ h => h) (Or.inl ⟨by rfl, ?_⟩) ?_ ?_
    rotate_left
    ·intro w'
     go_simp
     with_reducible rfl
    rotate_left
    ·simp only [Act.put, List.setIfInBounds_toArray, List.set_cons_zero, List.set_cons_succ, i64_w, i32_w]
     rfl
    refine pure_ (i := 1) (N := some 16) (v := ?_) (a' := ?_) #[true, true, false, false, false, false, false, false, false, false, false, false, false] rfl rfl (any_of HT_.out (by kernel_rfl)) (fun _ _ _ h => h) (Or.inl ⟨by rfl, ?_⟩) ?_ ?_
    rotate_left
    ·intro w'
     go_simp
     with_reducible rfl
    rotate_left
    ·simp only [Act.put, List.setIfInBounds_toArray, List.set_cons_zero, List.set_cons_succ, i64_w, i32_w]
     rfl
    refine pure_ (i := 2) (N := some 17) (v := ?_) (a' := ?_) #[true, true, true, false, false, false, false, false, false, false, false, false, false] rfl rfl (any_of HT_.out (by kernel_rfl)) (fun _ _ _ h => h) (Or.inl ⟨by rfl, ?_⟩) ?_ ?_
    rotate_left
    ·intro w'
     go_simp
     with_reducible rfl
    rotate_left
    ·simp only [Act.put, List.setIfInBounds_toArray, List.set_cons_zero, List.set_cons_succ, i64_w, i32_w]
     rfl
    refine pure_ (i := 3) (N := some 18) (v := ?_) (a' := ?_) #[true, true, true, true, false, false, false, false, false, false, false, false, false] rfl rfl (any_of HT_.out (by kernel_rfl)) (fun _ _ _ h => h) (Or.inl ⟨by rfl, ?_⟩) ?_ ?_
    rotate_left
    ·intro w'
     go_simp
     with_reducible rfl
    rotate_left
    ·simp only [Act.put, List.setIfInBounds_toArray, List.set_cons_zero, List.set_cons_succ, i64_w, i32_w]
     rfl
    refine pure_ (i := 4) (N := some 19) (v := ?_) (a' := ?_) #[true, true, true, true, true, false, false, false, false, false, false, false, false] rfl rfl (any_of HT_.out (by kernel_rfl)) (fun _ _ _ h => h) (Or.inl ⟨by rfl, ?_⟩) ?_ ?_
    rotate_left
    ·intro w'
     go_simp
     with_reducible rfl
    rotate_left
    ·simp only [Act.put, List.setIfInBounds_toArray, List.set_cons_zero, List.set_cons_succ, i64_w, i32_w]
     rfl
    refine pure_ (i := 5) (N := some 20) (v := ?_) (a' := ?_) #[true, true, true, true, true, true, false, false, false, false, false, false, false] rfl rfl (any_of HT_.out (by kernel_rfl)) (fun _ _ _ h => h) (Or.inl ⟨by rfl, ?_⟩) ?_ ?_
    rotate_left
    ·intro w'
     go_simp
     with_reducible rfl
    rotate_left
    ·simp only [Act.put, List.setIfInBounds_toArray, List.set_cons_zero, List.set_cons_succ, i64_w, i32_w]
     rfl
    refine pure_ (i := 6) (N := some 21) (v := ?_) (a' := ?_) #[true, true, true, true, true, true, true, false, false, false, false, false, false] rfl rfl (any_of HT_.out (by kernel_rfl)) (fun _ _ _ h => h) (Or.inl ⟨by rfl, ?_⟩) ?_ ?_
    rotate_left
    ·intro w'
     go_simp
     with_reducible rfl
    rotate_left
    ·simp only [Act.put, List.setIfInBounds_toArray, List.set_cons_zero, List.set_cons_succ, i64_w, i32_w]
     rfl
    refine pure_ (i := 7) (N := some 22) (v := undef) (a' := ?_) #[true, true, true, true, true, true, true, true, false, false, false, false, false] rfl rfl (any_of HT_.out (by kernel_rfl)) (fun _ _ _ h => h) (Or.inr ⟨by rfl, rfl⟩) ?_ ?_
    rotate_left
    ·simp only [Act.put, List.setIfInBounds_toArray, List.set_cons_zero, List.set_cons_succ, i64_w, i32_w]
     rfl
    refine pure_ (i := 8) (N := some 23) (v := undef) (a' := ?_) #[true, true, true, true, true, true, true, true, true, false, false, false, false] rfl rfl (any_of HT_.out (by kernel_rfl)) (fun _ _ _ h => h) (Or.inr ⟨by rfl, rfl⟩) ?_ ?_
    rotate_left
    ·simp only [Act.put, List.setIfInBounds_toArray, List.set_cons_zero, List.set_cons_succ, i64_w, i32_w]
     rfl
    refine pure_ (i := 9) (N := some 24) (v := undef) (a' := ?_) #[true, true, true, true, true, true, true, true, true, true, false, false, false] rfl rfl (any_of HT_.out (by kernel_rfl)) (fun _ _ _ h => h) (Or.inr ⟨by rfl, rfl⟩) ?_ ?_
    rotate_left
    ·simp only [Act.put, List.setIfInBounds_toArray, List.set_cons_zero, List.set_cons_succ, i64_w, i32_w]
     rfl
    refine pure_ (i := 10) (N := some 25) (v := undef) (a' := ?_) #[true, true, true, true, true, true, true, true, true, true, true, false, false] rfl rfl (any_of HT_.out (by kernel_rfl)) (fun _ _ _ h => h) (Or.inr ⟨by rfl, rfl⟩) ?_ ?_
    rotate_left
    ·simp only [Act.put, List.setIfInBounds_toArray, List.set_cons_zero, List.set_cons_succ, i64_w, i32_w]
     rfl
    refine pure_ (i := 11) (N := some 26) (v := ?_) (a' := ?_) #[true, true, true, true, true, true, true, true, true, true, true, true, false] rfl rfl (any_of HT_.out (by kernel_rfl)) (fun _ _ _ h => h) (Or.inl ⟨by rfl, ?_⟩) ?_ ?_
    rotate_left
    ·intro w'
     go_simp
     with_reducible rfl
    rotate_left
    ·simp only [Act.put, List.setIfInBounds_toArray, List.set_cons_zero, List.set_cons_succ, i64_w, i32_w]
     rfl
    refine pure_ (i := 12) (N := some 2) (v := ?_) (a' := ?_) #[true, true, true, true, true, true, true, true, true, true, true, true, true] rfl rfl (any_of HT_.out (by kernel_rfl)) (fun _ _ _ h => h) (Or.inl ⟨by rfl, ?_⟩) ?_ ?_
    rotate_left
    ·intro w'
     go_simp
     with_reducible rfl
    rotate_left
    ·simp only [Act.put, List.setIfInBounds_toArray, List.set_cons_zero, List.set_cons_succ, i64_w, i32_w]
     rfl
    refine done_ (done_of HT_.out (by kernel_rfl)) ?_
    try go_wp2
    go_ret
    exact ⟨by first | rfl | (simp [errW_none, errW_some] <;> rfl) | (simp [*, errW_none, errW_some] <;> rfl), by repeat (first | (with_reducible first | exact HB.out | apply below_alloc | apply pw_below_drewN | apply below_drew1 | refine below_set ?_ GE578.out | refine below_set ?_ GE592.out) | exact HB.out)⟩
  ·rw [if_neg c6] at H
   have c6b0 : (t591 == 0) = false := beq_eq_false_iff_ne.mpr c6
   have c6b1 : (t591 != 0) = true := bne_iff_ne.mpr c6
   obtain rfl := Option.some.inj H
   go_enter Tryd.func11, Tryd.ntmps11
   try go_wp2_with (first | ((with_reducible refine gate_dst (N := 1) rfl ?_); refine box_event ?hg (N := 1) ?hd (cs := #[.int .i64 a0_0, .int .i64 a0_1, .int .i64 a0_2, .int .i64 a0_3, .int .i64 a0_4, .int .i64 a0_5, .slice A0_6 l0_6.length c0_6]) (t := 26) ?hr ?_; (case hd => rfl); (case hg => rfl); (case hr => first | (go_simp; done) | (go_simp; rfl)); intro gb578 hg w35 hbox hb; have n0_ := Aside0.mk (below_step (by repeat (first | (with_reducible first | exact HB.out | apply below_alloc | apply pw_below_drewN | apply below_drew1) | exact HB.out)) hb); have n1_ := Aside0.mk (hbox); have n2_ := Aside0.mk ((by rw [hg]; exact (below_size (by repeat (first | (with_reducible first | exact HB.out | apply below_alloc | apply pw_below_drewN | apply below_drew1) | exact HB.out))) : w.heap.size ≤ gb578)); have n3_ := Aside0.mk ((by rw [hg]; exact (below_size (by repeat (first | (with_reducible first | exact HB.out | apply below_alloc | apply pw_below_drewN | apply below_drew1) | exact HB.out))) : w.heap.size ≤ gb578)); clear HB; have HB := n0_; have BK578 := n1_; have GW578 := n2_; have GE578 := n3_; clear n0_ n1_ n2_ n3_; clear hb hbox hg) | ((with_reducible refine gate_callee (f := 16) rfl ?_); refine goesL_ (some 6) rfl rfl Tryd.func16 (by kernel_rfl) rfl #[] rfl (by (try simp only [List.map_toArray, List.map_cons, List.map_nil]); first | done | rfl | (simp only [List.length_drop, List.length_take]; rfl)) ?_; (with_reducible refine (barrowlaw24_awake.calls k  true _ ?tab1_ ?tab2_ A2.out).mono ?_); (case tab1_ => exact tab_keep hTab (by repeat (first | (with_reducible first | exact HB.out | apply below_alloc | apply pw_below_drewN | apply below_drew1) | (with_reducible refine below_set ?_ GE578.out) | (with_reducible refine below_set ?_ GE592.out) | exact HB.out))); (case tab2_ => exact tabE_keep hTabE (by repeat (first | (with_reducible first | exact HB.out | apply below_alloc | apply pw_below_drewN | apply below_drew1) | (with_reducible refine below_set ?_ GE578.out) | (with_reducible refine below_set ?_ GE592.out) | exact HB.out))); rintro e w36 ⟨rfl, hb⟩; refine ⟨_, rfl, ?_⟩; have n0_ := Aside0.mk (blk_below (g := gb578) (o := .cells #[.int .i64 a0_0, .int .i64 a0_1, .int .i64 a0_2, .int .i64 a0_3, .int .i64 a0_4, .int .i64 a0_5, .slice A0_6 l0_6.length c0_6] 26 (0, 0)) (by (with_reducible repeat (first | refine blk_drewN ?_ _ | refine blk_drew ?_ | refine blk_alloc ?_ _)); exact BK578.out) hb); have n1_ := Aside0.mk (below_step (by repeat (first | (with_reducible first | exact HB.out | apply below_alloc | apply pw_below_drewN | apply below_drew1 | refine below_set ?_ GE578.out) | exact HB.out)) hb); clear BK578; clear HB; have BK578 := n0_; have HB := n1_; clear n0_ n1_; (try clear hb); (try clear hb2); (try clear hk); (try clear hi); have hcz37_0 : w36.cell? ⟨gb578, 0, none⟩ = some (.int .i64 a0_0) := (blk_cell BK578.out 0).trans rfl; have hcz37_1 : w36.cell? ⟨gb578, 1, none⟩ = some (.int .i64 a0_1) := (blk_cell BK578.out 1).trans rfl; have hcz37_2 : w36.cell? ⟨gb578, 2, none⟩ = some (.int .i64 a0_2) := (blk_cell BK578.out 2).trans rfl; have hcz37_3 : w36.cell? ⟨gb578, 3, none⟩ = some (.int .i64 a0_3) := (blk_cell BK578.out 3).trans rfl; have hcz37_4 : w36.cell? ⟨gb578, 4, none⟩ = some (.int .i64 a0_4) := (blk_cell BK578.out 4).trans rfl; have hcz37_5 : w36.cell? ⟨gb578, 5, none⟩ = some (.int .i64 a0_5) := (blk_cell BK578.out 5).trans rfl; have hcz37_6 : w36.cell? ⟨gb578, 6, none⟩ = some (.slice A0_6 l0_6.length c0_6) := (blk_cell BK578.out 6).trans rfl; have hfz37_0 := blk_frozen BK578.out 0; have hfz37_1 := blk_frozen BK578.out 1; have hfz37_2 := blk_frozen BK578.out 2; have hfz37_3 := blk_frozen BK578.out 3; have hfz37_4 := blk_frozen BK578.out 4; have hfz37_5 := blk_frozen BK578.out 5; have hfz37_6 := blk_frozen BK578.out 6) | ((with_reducible refine gate_callee (f := 14) rfl ?_); refine goesL_ (some 10) rfl rfl Tryd.func14 (by kernel_rfl) rfl #[.agg #[.int .i64 a0_0, .int .i64 a0_1, .int .i64 a0_2, .int .i64 a0_3, .int .i64 a0_4, .int .i64 a0_5, .slice A0_6 l0_6.length c0_6]] rfl (by (try simp only [List.map_toArray, List.map_cons, List.map_nil]); first | done | rfl | (simp only [List.length_drop, List.length_take]; rfl)) ?_; (with_reducible refine (script_Print.calls a0_0 a0_1 a0_2 a0_3 a0_4 a0_5 _ _ l0_6 t580 _ ?tab3_ ?side1 ?side2 A4.out).mono ?_); (case tab3_ => exact tab_keep hTab (by repeat (first | (with_reducible first | exact HB.out | apply below_alloc | apply pw_below_drewN | apply below_drew1) | (with_reducible refine below_set ?_ GE578.out) | (with_reducible refine below_set ?_ GE592.out) | exact HB.out))); (case side1 => repeat (first | exact (Kd.C_below HR0_6.out HB.out) | (with_reducible refine Kd.C_alloc ?_ _) | (with_reducible refine Kd.C_drewN ?_ _) | (with_reducible refine Kd.C_drew ?_))); (case side2 => exact HC0_6.out); rintro e w38 ⟨rfl, hb⟩; refine ⟨_, rfl, ?_⟩; have n0_ := Aside0.mk (blk_below (g := gb578) (o := .cells #[.int .i64 a0_0, .int .i64 a0_1, .int .i64 a0_2, .int .i64 a0_3, .int .i64 a0_4, .int .i64 a0_5, .slice A0_6 l0_6.length c0_6] 26 (0, 0)) (by (with_reducible repeat (first | refine blk_drewN ?_ _ | refine blk_drew ?_ | refine blk_alloc ?_ _)); exact BK578.out) hb); have n1_ := Aside0.mk (below_step (by repeat (first | (with_reducible first | exact HB.out | apply below_alloc | apply pw_below_drewN | apply below_drew1 | refine below_set ?_ GE578.out) | exact HB.out)) hb); clear BK578; clear HB; have BK578 := n0_; have HB := n1_; clear n0_ n1_; (try clear hb); (try clear hb2); (try clear hk); (try clear hi)) | ((with_reducible refine gate_callee (f := 23) rfl ?_); refine goesL_ (some 11) rfl rfl Tryd.func23 (by kernel_rfl) rfl #[.string t580] rfl (by (try simp only [List.map_toArray, List.map_cons, List.map_nil]); first | done | rfl | (simp only [List.length_drop, List.length_take]; rfl)) ?_; (with_reducible refine (script_Parse.calls k t580 t581 t582 t583 t584 t585 t586 t587 t590 t591 _ ?tab4_ ?tab5_ ?tab6_ A5.out).mono ?_); (case tab4_ => exact tab_keep hTab (by repeat (first | (with_reducible first | exact HB.out | apply below_alloc | apply pw_below_drewN | apply below_drew1) | (with_reducible refine below_set ?_ GE578.out) | (with_reducible refine below_set ?_ GE592.out) | exact HB.out))); (case tab5_ => exact tabE_keep hTabE (by repeat (first | (with_reducible first | exact HB.out | apply below_alloc | apply pw_below_drewN | apply below_drew1) | (with_reducible refine below_set ?_ GE578.out) | (with_reducible refine below_set ?_ GE592.out) | exact HB.out))); (case tab6_ => exact tabM_keep hTabM (by repeat (first | (with_reducible first | exact HB.out | apply below_alloc | apply pw_below_drewN | apply below_drew1) | (with_reducible refine below_set ?_ GE578.out) | (with_reducible refine below_set ?_ GE592.out) | exact HB.out))); rintro e w39 ⟨v588, rfl, ho0, hb⟩; refine ⟨_, rfl, ?_⟩; have n0_ := Aside0.mk (Kd.R_lower ho0 (below_size (by repeat (first | (with_reducible first | exact HB.out | apply below_alloc | apply pw_below_drewN | apply below_drew1 | refine below_set ?_ GE578.out) | exact HB.out)))); have n1_ := Aside0.mk (blk_below (g := gb578) (o := .cells #[.int .i64 a0_0, .int .i64 a0_1, .int .i64 a0_2, .int .i64 a0_3, .int .i64 a0_4, .int .i64 a0_5, .slice A0_6 l0_6.length c0_6] 26 (0, 0)) (by (with_reducible repeat (first | refine blk_drewN ?_ _ | refine blk_drew ?_ | refine blk_alloc ?_ _)); exact BK578.out) hb); have n2_ := Aside0.mk (below_step (by repeat (first | (with_reducible first | exact HB.out | apply below_alloc | apply pw_below_drewN | apply below_drew1 | refine below_set ?_ GE578.out) | exact HB.out)) hb); clear BK578; clear HB; have HO589 := n0_; have BK578 := n1_; have HB := n2_; clear n0_ n1_ n2_; (try clear hb); (try clear hb2); (try clear hk); (try clear hi); (try clear ho0)) | ((with_reducible refine gate_dst (N := 3) rfl ?_); refine box_event ?hg (N := 3) ?hd (cs := #[.int .i64 0, .int .i64 0, .int .i64 0, .int .i64 0, .int .i64 0, .int .i64 0, .slice none 0 0]) (t := 26) ?hr ?_; (case hd => rfl); (case hg => rfl); (case hr => first | (go_simp; done) | (go_simp; rfl)); intro gb592 hg w40 hbox hb; have n0_ := Aside0.mk (Kd.R_below (by (with_reducible repeat (first | apply Kd.R_alloc | apply Kd.R_drewN | apply Kd.R_drew)); exact HO589.out) hb); have n1_ := Aside0.mk (blk_below (g := gb578) (o := .cells #[.int .i64 a0_0, .int .i64 a0_1, .int .i64 a0_2, .int .i64 a0_3, .int .i64 a0_4, .int .i64 a0_5, .slice A0_6 l0_6.length c0_6] 26 (0, 0)) (by (with_reducible repeat (first | refine blk_drewN ?_ _ | refine blk_drew ?_ | refine blk_alloc ?_ _)); exact BK578.out) hb); have n2_ := Aside0.mk (below_step (by repeat (first | (with_reducible first | exact HB.out | apply below_alloc | apply pw_below_drewN | apply below_drew1 | refine below_set ?_ GE578.out) | exact HB.out)) hb); have n3_ := Aside0.mk (hbox); have n4_ := Aside0.mk ((by rw [hg]; exact (below_size (by repeat (first | (with_reducible first | exact HB.out | apply below_alloc | apply pw_below_drewN | apply below_drew1 | refine below_set ?_ GE578.out) | exact HB.out))) : w.heap.size ≤ gb592)); have n5_ := Aside0.mk ((by rw [hg]; exact (below_size (by repeat (first | (with_reducible first | exact HB.out | apply below_alloc | apply pw_below_drewN | apply below_drew1 | refine below_set ?_ GE578.out) | exact HB.out))) : w.heap.size ≤ gb592)); have n6_ := Aside0.mk ((by rw [hg]; exact Nat.ne_of_lt (blk_lt (g := gb578) (o := .cells #[.int .i64 a0_0, .int .i64 a0_1, .int .i64 a0_2, .int .i64 a0_3, .int .i64 a0_4, .int .i64 a0_5, .slice A0_6 l0_6.length c0_6] 26 (0, 0)) (by (with_reducible repeat (first | refine blk_drewN ?_ _ | refine blk_drew ?_ | refine blk_alloc ?_ _)); exact BK578.out)) : gb578 ≠ gb592)); have n7_ := Aside0.mk ((by rw [hg]; exact Nat.ne_of_gt (blk_lt (g := gb578) (o := .cells #[.int .i64 a0_0, .int .i64 a0_1, .int .i64 a0_2, .int .i64 a0_3, .int .i64 a0_4, .int .i64 a0_5, .slice A0_6 l0_6.length c0_6] 26 (0, 0)) (by (with_reducible repeat (first | refine blk_drewN ?_ _ | refine blk_drew ?_ | refine blk_alloc ?_ _)); exact BK578.out)) : gb592 ≠ gb578)); clear HO589; clear BK578; clear HB; have HO589 := n0_; have BK578 := n1_; have HB := n2_; have BK592 := n3_; have GW592 := n4_; have GE592 := n5_; have NB578_592 := n6_; have NB592_578 := n7_; clear n0_ n1_ n2_ n3_ n4_ n5_ n6_ n7_; clear hb hbox hg; have hnb41 := NB592_578.out; have hnc41 := NB578_592.out; have hcz42_0 : w40.cell? ⟨gb592, 0, none⟩ = some (.int .i64 0) := (blk_cell BK592.out 0).trans rfl; have hcz42_1 : w40.cell? ⟨gb592, 1, none⟩ = some (.int .i64 0) := (blk_cell BK592.out 1).trans rfl; have hcz42_2 : w40.cell? ⟨gb592, 2, none⟩ = some (.int .i64 0) := (blk_cell BK592.out 2).trans rfl; have hcz42_3 : w40.cell? ⟨gb592, 3, none⟩ = some (.int .i64 0) := (blk_cell BK592.out 3).trans rfl; have hcz42_4 : w40.cell? ⟨gb592, 4, none⟩ = some (.int .i64 0) := (blk_cell BK592.out 4).trans rfl; have hcz42_5 : w40.cell? ⟨gb592, 5, none⟩ = some (.int .i64 0) := (blk_cell BK592.out 5).trans rfl; have hcz42_6 : w40.cell? ⟨gb592, 6, none⟩ = some (.slice none 0 0) := (blk_cell BK592.out 6).trans rfl; have hfz42_0 := blk_frozen BK592.out 0; have hfz42_1 := blk_frozen BK592.out 1; have hfz42_2 := blk_frozen BK592.out 2; have hfz42_3 := blk_frozen BK592.out 3; have hfz42_4 := blk_frozen BK592.out 4; have hfz42_5 := blk_frozen BK592.out 5; have hfz42_6 := blk_frozen BK592.out 6; obtain ⟨Ao43, co43, eo43⟩ := Kd.R_slice HO589.out; subst eo43))
   have n0_ : Aside0 (Kd.R k29 29 (((((((w40.setCell ⟨gb592, 0, none⟩ (.int .i64 t581)).setCell ⟨gb592, 1, none⟩ (.int .i64 t582)).setCell ⟨gb592, 2, none⟩ (.int .i64 t583)).setCell ⟨gb592, 3, none⟩ (.int .i64 t584)).setCell ⟨gb592, 4, none⟩ (.int .i64 t585)).setCell ⟨gb592, 5, none⟩ (.int .i64 t586)).setCell ⟨gb592, 6, none⟩ (.slice Ao43 t587.length co43)) w.heap.size (fun _ => True) (.slice Ao43 t587.length co43) t587) := ⟨by (with_reducible repeat (first | apply Kd.R_alloc | apply Kd.R_drewN | apply Kd.R_drew)); exact Kd.R_mono (Kd.R_far (p := ⟨gb592, 6, none⟩) (Kd.R_far (p := ⟨gb592, 5, none⟩) (Kd.R_far (p := ⟨gb592, 4, none⟩) (Kd.R_far (p := ⟨gb592, 3, none⟩) (Kd.R_far (p := ⟨gb592, 2, none⟩) (Kd.R_far (p := ⟨gb592, 1, none⟩) (Kd.R_far (p := ⟨gb592, 0, none⟩) (Kd.R_types HO589.out BK592.out (by decide)) (fun _ hk => hk.2) (.int .i64 t581)) (fun _ hk => hk.2) (.int .i64 t582)) (fun _ hk => hk.2) (.int .i64 t583)) (fun _ hk => hk.2) (.int .i64 t584)) (fun _ hk => hk.2) (.int .i64 t585)) (fun _ hk => hk.2) (.int .i64 t586)) (fun _ hk => hk.2) (.slice Ao43 t587.length co43)) (fun _ hk => trivial)⟩
   have n1_ : Aside0 ((((((((w40.setCell ⟨gb592, 0, none⟩ (.int .i64 t581)).setCell ⟨gb592, 1, none⟩ (.int .i64 t582)).setCell ⟨gb592, 2, none⟩ (.int .i64 t583)).setCell ⟨gb592, 3, none⟩ (.int .i64 t584)).setCell ⟨gb592, 4, none⟩ (.int .i64 t585)).setCell ⟨gb592, 5, none⟩ (.int .i64 t586)).setCell ⟨gb592, 6, none⟩ (.slice Ao43 t587.length co43)).heap[gb578]? = some (.cells #[.int .i64 a0_0, .int .i64 a0_1, .int .i64 a0_2, .int .i64 a0_3, .int .i64 a0_4, .int .i64 a0_5, .slice A0_6 l0_6.length c0_6] 26 (0, 0))) := ⟨by (with_reducible repeat (first | refine blk_drewN ?_ _ | refine blk_drew ?_ | refine blk_alloc ?_ _)); refine blk_far ?_ NB578_592.out _; (with_reducible repeat (first | refine blk_drewN ?_ _ | refine blk_drew ?_ | refine blk_alloc ?_ _)); refine blk_far ?_ NB578_592.out _; (with_reducible repeat (first | refine blk_drewN ?_ _ | refine blk_drew ?_ | refine blk_alloc ?_ _)); refine blk_far ?_ NB578_592.out _; (with_reducible repeat (first | refine blk_drewN ?_ _ | refine blk_drew ?_ | refine blk_alloc ?_ _)); refine blk_far ?_ NB578_592.out _; (with_reducible repeat (first | refine blk_drewN ?_ _ | refine blk_drew ?_ | refine blk_alloc ?_ _)); refine blk_far ?_ NB578_592.out _; (with_reducible repeat (first | refine blk_drewN ?_ _ | refine blk_drew ?_ | refine blk_alloc ?_ _)); refine blk_far ?_ NB578_592.out _; (with_reducible repeat (first | refine blk_drewN ?_ _ | refine blk_drew ?_ | refine blk_alloc ?_ _)); refine blk_far ?_ NB578_592.out _; (with_reducible repeat (first | refine blk_drewN ?_ _ | refine blk_drew ?_ | refine blk_alloc ?_ _)); exact BK578.out⟩
   have n2_ : Aside0 ((((((((w40.setCell ⟨gb592, 0, none⟩ (.int .i64 t581)).setCell ⟨gb592, 1, none⟩ (.int .i64 t582)).setCell ⟨gb592, 2, none⟩ (.int .i64 t583)).setCell ⟨gb592, 3, none⟩ (.int .i64 t584)).setCell ⟨gb592, 4, none⟩ (.int .i64 t585)).setCell ⟨gb592, 5, none⟩ (.int .i64 t586)).setCell ⟨gb592, 6, none⟩ (.slice Ao43 t587.length co43)).heap[gb592]? = some (.cells #[.int .i64 t581, .int .i64 t582, .int .i64 t583, .int .i64 t584, .int .i64 t585, .int .i64 t586, .slice Ao43 t587.length co43] 26 (0, 0))) := ⟨by (with_reducible repeat (first | refine blk_drewN ?_ _ | refine blk_drew ?_ | refine blk_alloc ?_ _)); refine blk_put (cs := #[.int .i64 t581, .int .i64 t582, .int .i64 t583, .int .i64 t584, .int .i64 t585, .int .i64 t586, .slice none 0 0]) ?_ 6 _ rfl; (with_reducible repeat (first | refine blk_drewN ?_ _ | refine blk_drew ?_ | refine blk_alloc ?_ _)); refine blk_put (cs := #[.int .i64 t581, .int .i64 t582, .int .i64 t583, .int .i64 t584, .int .i64 t585, .int .i64 0, .slice none 0 0]) ?_ 5 _ rfl; (with_reducible repeat (first | refine blk_drewN ?_ _ | refine blk_drew ?_ | refine blk_alloc ?_ _)); refine blk_put (cs := #[.int .i64 t581, .int .i64 t582, .int .i64 t583, .int .i64 t584, .int .i64 0, .int .i64 0, .slice none 0 0]) ?_ 4 _ rfl; (with_reducible repeat (first | refine blk_drewN ?_ _ | refine blk_drew ?_ | refine blk_alloc ?_ _)); refine blk_put (cs := #[.int .i64 t581, .int .i64 t582, .int .i64 t583, .int .i64 0, .int .i64 0, .int .i64 0, .slice none 0 0]) ?_ 3 _ rfl; (with_reducible repeat (first | refine blk_drewN ?_ _ | refine blk_drew ?_ | refine blk_alloc ?_ _)); refine blk_put (cs := #[.int .i64 t581, .int .i64 t582, .int .i64 0, .int .i64 0, .int .i64 0, .int .i64 0, .slice none 0 0]) ?_ 2 _ rfl; (with_reducible repeat (first | refine blk_drewN ?_ _ | refine blk_drew ?_ | refine blk_alloc ?_ _)); refine blk_put (cs := #[.int .i64 t581, .int .i64 0, .int .i64 0, .int .i64 0, .int .i64 0, .int .i64 0, .slice none 0 0]) ?_ 1 _ rfl; (with_reducible repeat (first | refine blk_drewN ?_ _ | refine blk_drew ?_ | refine blk_alloc ?_ _)); refine blk_put (cs := #[.int .i64 0, .int .i64 0, .int .i64 0, .int .i64 0, .int .i64 0, .int .i64 0, .slice none 0 0]) ?_ 0 _ rfl; (with_reducible repeat (first | refine blk_drewN ?_ _ | refine blk_drew ?_ | refine blk_alloc ?_ _)); exact BK592.out⟩
   have n3_ : Aside0 (Below w.heap.size w (((((((w40.setCell ⟨gb592, 0, none⟩ (.int .i64 t581)).setCell ⟨gb592, 1, none⟩ (.int .i64 t582)).setCell ⟨gb592, 2, none⟩ (.int .i64 t583)).setCell ⟨gb592, 3, none⟩ (.int .i64 t584)).setCell ⟨gb592, 4, none⟩ (.int .i64 t585)).setCell ⟨gb592, 5, none⟩ (.int .i64 t586)).setCell ⟨gb592, 6, none⟩ (.slice Ao43 t587.length co43))) := ⟨by repeat (first | (with_reducible first | exact HB.out | apply below_alloc | apply pw_below_drewN | apply below_drew1 | refine below_set ?_ GE578.out | refine below_set ?_ GE592.out) | exact HB.out)⟩
   (try clear HO589)
   (try clear BK578)
   (try clear BK592)
   (try clear HB)
   generalize (((((((w40.setCell ⟨gb592, 0, none⟩ (.int .i64 t581)).setCell ⟨gb592, 1, none⟩ (.int .i64 t582)).setCell ⟨gb592, 2, none⟩ (.int .i64 t583)).setCell ⟨gb592, 3, none⟩ (.int .i64 t584)).setCell ⟨gb592, 4, none⟩ (.int .i64 t585)).setCell ⟨gb592, 5, none⟩ (.int .i64 t586)).setCell ⟨gb592, 6, none⟩ (.slice Ao43 t587.length co43)) = w44 at n0_ n1_ n2_ n3_ ⊢
   have HO589 := n0_
   have BK578 := n1_
   have BK592 := n2_
   have HB := n3_
   clear n0_ n1_ n2_ n3_
   have n0_ := Aside0.mk (Kd.R_drew HO589.out)
   have n1_ := Aside0.mk (blk_drew BK578.out)
   have n2_ := Aside0.mk (blk_drew BK592.out)
   have n3_ := Aside0.mk (below_drew1 HB.out)
   clear HO589
   clear BK578
   clear BK592
   clear HB
   have HO589 := n0_
   have BK578 := n1_
   have BK592 := n2_
   have HB := n3_
   clear n0_ n1_ n2_ n3_
   refine start_ (n := 13) (S := fun w' => True) (ds := []) #[false, false, false, false, false, false, false, false, false, false, false, false, false] (by kernel_rfl) rfl rfl trivial (fun hHeld => ?_); refine with_tabW barrowlaw24_ScriptThere.tab4 barrowlaw24_ScriptThere.bits4 (fun HT_ HW_ => ?_)
   generalize w44.drew = w45 at HO589 BK578 BK592 HB hHeld ⊢
   refine pure_ (i := 0) (N := some 15) (v := ?_) (a' := ?_) #[true, false, false, false, false, false, false, false, false, false, false, false, false] rfl rfl (any_of HT_.out (by kernel_rfl)) (fun _ _ _ h => h) (Or.inl ⟨by rfl, ?_⟩) ?_ ?_
   rotate_left
   ·intro w'
    go_simp
    with_reducible rfl
   rotate_left
   ·simp only [Act.put, List.setIfInBounds_toArray, List.set_cons_zero, List.set_cons_succ, i64_w, i32_w]
    rfl
   refine pure_ (i := 1) (N := some 16) (v := ?_) (a' := ?_) #[true, true, false, false, false, false, false, false, false, false, false, false, false] rfl rfl (any_of HT_.out (by kernel_rfl)) (fun _ _ _ h => h) (Or.inl ⟨by rfl, ?_⟩) ?_ ?_
   rotate_left
   ·intro w'
    go_simp
    with_reducible rfl
   rotate_left
   ·simp only [Act.put, List.setIfInBounds_toArray, List.set_cons_zero, List.set_cons_succ, i64_w, i32_w]
    rfl
   refine pure_ (i := 2) (N := some 17) (v := ?_) (a' := ?_) #[true, true, true, false, false, false, false, false, false, false, false, false, false] rfl rfl (any_of HT_.out (by kernel_rfl)) (fun _ _ _ h => h) (Or.inl ⟨by rfl, ?_⟩) ?_ ?_
   rotate_left
   ·intro w'
    go_simp
    with_reducible rfl
   rotate_left
   ·simp only [Act.put, List.setIfInBounds_toArray, List.set_cons_zero, List.set_cons_succ, i64_w, i32_w]
    rfl
   refine pure_ (i := 3) (N := some 18) (v := undef) (a' := ?_) #[true, true, true, true, false, false, false, false, false, false, false, false, false] rfl rfl (any_of HT_.out (by kernel_rfl)) (fun _ _ _ h => h) (Or.inr ⟨by rfl, rfl⟩) ?_ ?_
   rotate_left
   ·simp only [Act.put, List.setIfInBounds_toArray, List.set_cons_zero, List.set_cons_succ, i64_w, i32_w]
    rfl
   refine pure_ (i := 4) (N := some 19) (v := undef) (a' := ?_) #[true, true, true, true, true, false, false, false, false, false, false, false, false] rfl rfl (any_of HT_.out (by kernel_rfl)) (fun _ _ _ h => h) (Or.inr ⟨by rfl, rfl⟩) ?_ ?_
   rotate_left
   ·simp only [Act.put, List.setIfInBounds_toArray, List.set_cons_zero, List.set_cons_succ, i64_w, i32_w]
    rfl
   refine pure_ (i := 5) (N := some 20) (v := ?_) (a' := ?_) #[true, true, true, true, true, true, false, false, false, false, false, false, false] rfl rfl (any_of HT_.out (by kernel_rfl)) (fun _ _ _ h => h) (Or.inl ⟨by rfl, ?_⟩) ?_ ?_
   rotate_left
   ·intro w'
    go_simp
    with_reducible rfl
   rotate_left
   ·simp only [Act.put, List.setIfInBounds_toArray, List.set_cons_zero, List.set_cons_succ, i64_w, i32_w]
    rfl
   refine pure_ (i := 6) (N := some 21) (v := ?_) (a' := ?_) #[true, true, true, true, true, true, true, false, false, false, false, false, false] rfl rfl (any_of HT_.out (by kernel_rfl)) (fun _ _ _ h => h) (Or.inl ⟨by rfl, ?_⟩) ?_ ?_
   rotate_left
   ·intro w'
    go_simp
    with_reducible rfl
   rotate_left
   ·simp only [Act.put, List.setIfInBounds_toArray, List.set_cons_zero, List.set_cons_succ, i64_w, i32_w]
    rfl
   refine pure_ (i := 7) (N := some 22) (v := undef) (a' := ?_) #[true, true, true, true, true, true, true, true, false, false, false, false, false] rfl rfl (any_of HT_.out (by kernel_rfl)) (fun _ _ _ h => h) (Or.inr ⟨by rfl, rfl⟩) ?_ ?_
   rotate_left
   ·simp only [Act.put, List.setIfInBounds_toArray, List.set_cons_zero, List.set_cons_succ, i64_w, i32_w]
    rfl
   refine pure_ (i := 8) (N := some 23) (v := undef) (a' := ?_) #[true, true, true, true, true, true, true, true, true, false, false, false, false] rfl rfl (any_of HT_.out (by kernel_rfl)) (fun _ _ _ h => h) (Or.inr ⟨by rfl, rfl⟩) ?_ ?_
   rotate_left
   ·simp only [Act.put, List.setIfInBounds_toArray, List.set_cons_zero, List.set_cons_succ, i64_w, i32_w]
    rfl
   refine pure_ (i := 9) (N := some 24) (v := undef) (a' := ?_) #[true, true, true, true, true, true, true, true, true, true, false, false, false] rfl rfl (any_of HT_.out (by kernel_rfl)) (fun _ _ _ h => h) (Or.inr ⟨by rfl, rfl⟩) ?_ ?_
   rotate_left
   ·simp only [Act.put, List.setIfInBounds_toArray, List.set_cons_zero, List.set_cons_succ, i64_w, i32_w]
    rfl
   refine pure_ (i := 10) (N := some 25) (v := undef) (a' := ?_) #[true, true, true, true, true, true, true, true, true, true, true, false, false] rfl rfl (any_of HT_.out (by kernel_rfl)) (fun _ _ _ h => h) (Or.inr ⟨by rfl, rfl⟩) ?_ ?_
   rotate_left
   ·simp only [Act.put, List.setIfInBounds_toArray, List.set_cons_zero, List.set_cons_succ, i64_w, i32_w]
    rfl
   refine pure_ (i := 11) (N := some 26) (v := ?_) (a' := ?_) #[true, true, true, true, true, true, true, true, true, true, true, true, false] rfl rfl (any_of HT_.out (by kernel_rfl)) (fun _ _ _ h => h) (Or.inl ⟨by rfl, ?_⟩) ?_ ?_
   rotate_left
   ·intro w'
    go_simp
    with_reducible rfl
   rotate_left
   ·simp only [Act.put, List.setIfInBounds_toArray, List.set_cons_zero, List.set_cons_succ, i64_w, i32_w]
    rfl
   refine pure_ (i := 12) (N := some 2) (v := ?_) (a' := ?_) #[true, true, true, true, true, true, true, true, true, true, true, true, true] rfl rfl (any_of HT_.out (by kernel_rfl)) (fun _ _ _ h => h) (Or.inl ⟨by rfl, ?_⟩) ?_ ?_
   rotate_left
   ·intro w'
    go_simp
    with_reducible rfl
   rotate_left
   ·simp only [Act.put, List.setIfInBounds_toArray, List.set_cons_zero, List.set_cons_succ, i64_w, i32_w]
    rfl
   refine done_ (done_of HT_.out (by kernel_rfl)) ?_
   try go_wp2
   go_ret
   exact ⟨by first | rfl | (simp [errW_none, errW_some] <;> rfl) | (simp [*, errW_none, errW_some] <;> rfl), by repeat (first | (with_reducible first | exact HB.out | apply below_alloc | apply pw_below_drewN | apply below_drew1 | refine below_set ?_ GE578.out | refine below_set ?_ GE592.out) | exact HB.out)⟩
 ·replace c3 := Bool.eq_false_iff.mpr c3
  subst c3
  have H1 : (some false) = some r := by rw [if_neg (show ¬ (false = true) by decide)] at H; exact H
  clear H
  have H := H1
  clear H1
  obtain rfl := Option.some.inj H
  go_enter Tryd.func11, Tryd.ntmps11
  go_wp2_with (first | ((with_reducible refine gate_dst (N := 1) rfl ?_); refine box_event ?hg (N := 1) ?hd (cs := #[.int .i64 a0_0, .int .i64 a0_1, .int .i64 a0_2, .int .i64 a0_3, .int .i64 a0_4, .int .i64 a0_5, .slice A0_6 l0_6.length c0_6]) (t := 26) ?hr ?_; (case hd => rfl); (case hg => rfl); (case hr => first | (go_simp; done) | (go_simp; rfl)); intro gb578 hg w46 hbox hb; have n0_ := Aside0.mk (below_step (by repeat (first | (with_reducible first | exact HB.out | apply below_alloc | apply pw_below_drewN | apply below_drew1) | exact HB.out)) hb); have n1_ := Aside0.mk (hbox); have n2_ := Aside0.mk ((by rw [hg]; exact (below_size (by repeat (first | (with_reducible first | exact HB.out | apply below_alloc | apply pw_below_drewN | apply below_drew1) | exact HB.out))) : w.heap.size ≤ gb578)); have n3_ := Aside0.mk ((by rw [hg]; exact (below_size (by repeat (first | (with_reducible first | exact HB.out | apply below_alloc | apply pw_below_drewN | apply below_drew1) | exact HB.out))) : w.heap.size ≤ gb578)); clear HB; have HB := n0_; have BK578 := n1_; have GW578 := n2_; have GE578 := n3_; clear n0_ n1_ n2_ n3_; clear hb hbox hg) | ((with_reducible refine gate_callee (f := 16) rfl ?_); refine goesL_ (some 6) rfl rfl Tryd.func16 (by kernel_rfl) rfl #[] rfl (by (try simp only [List.map_toArray, List.map_cons, List.map_nil]); first | done | rfl | (simp only [List.length_drop, List.length_take]; rfl)) ?_; (with_reducible refine (barrowlaw24_awake.calls k  false _ ?tab1_ ?tab2_ A2.out).mono ?_); (case tab1_ => exact tab_keep hTab (by repeat (first | (with_reducible first | exact HB.out | apply below_alloc | apply pw_below_drewN | apply below_drew1) | (with_reducible refine below_set ?_ GE578.out) | exact HB.out))); (case tab2_ => exact tabE_keep hTabE (by repeat (first | (with_reducible first | exact HB.out | apply below_alloc | apply pw_below_drewN | apply below_drew1) | (with_reducible refine below_set ?_ GE578.out) | exact HB.out))); rintro e w47 ⟨rfl, hb⟩; refine ⟨_, rfl, ?_⟩; have n0_ := Aside0.mk (blk_below (g := gb578) (o := .cells #[.int .i64 a0_0, .int .i64 a0_1, .int .i64 a0_2, .int .i64 a0_3, .int .i64 a0_4, .int .i64 a0_5, .slice A0_6 l0_6.length c0_6] 26 (0, 0)) (by (with_reducible repeat (first | refine blk_drewN ?_ _ | refine blk_drew ?_ | refine blk_alloc ?_ _)); exact BK578.out) hb); have n1_ := Aside0.mk (below_step (by repeat (first | (with_reducible first | exact HB.out | apply below_alloc | apply pw_below_drewN | apply below_drew1 | refine below_set ?_ GE578.out) | exact HB.out)) hb); clear BK578; clear HB; have BK578 := n0_; have HB := n1_; clear n0_ n1_; (try clear hb); (try clear hb2); (try clear hk); (try clear hi)))
  go_ret
  exact ⟨by first | rfl | (simp [errW_none, errW_some] <;> rfl) | (simp [*, errW_none, errW_some] <;> rfl), by repeat (first | (with_reducible first | exact HB.out | apply below_alloc | apply pw_below_drewN | apply below_drew1 | refine below_set ?_ GE578.out) | exact HB.out)⟩

end Go.Proofs.YtlmdhpfggobogaaDoor.G
