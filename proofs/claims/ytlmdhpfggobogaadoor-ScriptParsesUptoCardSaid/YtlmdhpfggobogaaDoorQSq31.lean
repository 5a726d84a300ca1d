import Derived.Test.YtlmdhpfggobogaaDoorQSq5
import Derived.Test.YtlmdhpfggobogaaDoorQSq28
import Derived.Test.YtlmdhpfggobogaaDoorQSq7
import Derived.Test.YtlmdhpfggobogaaDoorQSq29
import Derived.Test.YtlmdhpfggobogaaDoorQSq25
import Derived.Test.YtlmdhpfggobogaaDoorQSq27
namespace Go.Proofs.YtlmdhpfggobogaaDoor.G
open Go.RowKit Go.Proofs.YtlmdhpfggobogaaDoorW.PrintWords Go.Proofs.YtlmdhpfggobogaaDoorW.PrintLast Go.Proofs.YtlmdhpfggobogaaDoorW.PrintMore
attribute [local go_sem] max2_int min2_int max_two min_two max_three min_three max_four min_four   -- for this text's walks alone
set_option linter.unusedVariables false
set_option linter.unusedSimpArgs false
def barrowlaw24_ScriptParses.j0 : Nat → ByteArray → Bool → Option (Bool)
 | 0, _, _ => none
 | k + 1, x0, x39 => if x39 = true then (some false) else ((script_Parse.f k x0).bind fun bt413 => ((barrowref24_Parse.f k x0).bind fun bt424 => (if bt413.2.2.2.2.2.2.2.2 = bt424.2.2.2.2.2.2.2.2 then (if bt413.2.2.2.2.2.2.2.1 = bt424.2.2.2.2.2.2.2.1 then ((barrowref24_Equal.f k bt413.1 bt413.2.1 bt413.2.2.1 bt413.2.2.2.1 bt413.2.2.2.2.1 bt413.2.2.2.2.2.1 bt413.2.2.2.2.2.2.1 bt424.1 bt424.2.1 bt424.2.2.1 bt424.2.2.2.1 bt424.2.2.2.2.1 bt424.2.2.2.2.2.1 bt424.2.2.2.2.2.2.1).bind fun t436 => (some t436)) else (some false)) else (some false))))
def barrowlaw24_ScriptParses.f (k : Nat) (a0 : ByteArray) : Option (Bool) := (script_Parse.f k (⟨#[115, 116, 111, 114, 101, 32, 50, 32, 49, 32, 49, 48, 32, 49, 48, 48, 32, 52, 32, 56, 10, 114, 101, 97, 100, 32, 49, 32, 48]⟩ : ByteArray)).bind fun bt400 => (if bt400.2.2.2.2.2.2.2.2 = 0 then (if bt400.2.2.2.2.2.2.2.1 = 0 then (if bt400.2.2.1 = 10 then (if (bt400.2.2.2.2.2.2.1.length : Int) = 1 then (if 0 < (bt400.2.2.2.2.2.2.1.length : Int) then (barrowlaw24_ScriptParses.j0 k a0 (((rd_T29 bt400.2.2.2.2.2.2.1 0).f0) != 7)) else (none)) else (barrowlaw24_ScriptParses.j0 k a0 true)) else (barrowlaw24_ScriptParses.j0 k a0 true)) else (barrowlaw24_ScriptParses.j0 k a0 true)) else (barrowlaw24_ScriptParses.j0 k a0 true))
set_option maxHeartbeats 8000000 in
set_option maxRecDepth 100000 in
theorem barrowlaw24_ScriptParses.calls (k : Nat) (a0 : ByteArray) (r : Bool) (w : World) (hTab : Aside0 (Tab w)) (hTabE : Aside0 (TabE w)) (hTabM : Aside0 (TabM w)) (h : barrowlaw24_ScriptParses.f k a0 = some r) :
  Calls Tryd.prog 8 #[.string a0] w fun e w' => e = .returned (.bool r) ∧ Below w.heap.size w w' := by
 have hu26 := Tryd.underlying26
 have HB := Aside0.mk (Below.refl w.heap.size w)
 have H : ((script_Parse.f k (⟨#[115, 116, 111, 114, 101, 32, 50, 32, 49, 32, 49, 48, 32, 49, 48, 48, 32, 52, 32, 56, 10, 114, 101, 97, 100, 32, 49, 32, 48]⟩ : ByteArray)).bind fun bt400 => (if bt400.2.2.2.2.2.2.2.2 = 0 then (if bt400.2.2.2.2.2.2.2.1 = 0 then (if bt400.2.2.1 = 10 then (if (bt400.2.2.2.2.2.2.1.length : Int) = 1 then (if 0 < (bt400.2.2.2.2.2.2.1.length : Int) then (barrowlaw24_ScriptParses.j0 k a0 (((rd_T29 bt400.2.2.2.2.2.2.1 0).f0) != 7)) else (none)) else (barrowlaw24_ScriptParses.j0 k a0 true)) else (barrowlaw24_ScriptParses.j0 k a0 true)) else (barrowlaw24_ScriptParses.j0 k a0 true)) else (barrowlaw24_ScriptParses.j0 k a0 true))) = some r := h
 clear h
 replace H := Option.bind_eq_some_iff.mp H
 obtain ⟨⟨t400, t401, t402, t403, t404, t405, t406, t409, t410⟩, A20, H⟩ := H
 replace H : (if t410 = 0 then (if t409 = 0 then (if t402 = 10 then (if (t406.length : Int) = 1 then (if 0 < (t406.length : Int) then (barrowlaw24_ScriptParses.j0 k a0 (((rd_T29 t406 0).f0) != 7)) else (none)) else (barrowlaw24_ScriptParses.j0 k a0 true)) else (barrowlaw24_ScriptParses.j0 k a0 true)) else (barrowlaw24_ScriptParses.j0 k a0 true)) else (barrowlaw24_ScriptParses.j0 k a0 true)) = some r := H
 have A2 := Aside0.mk A20
 clear A20
 have HC3 := Aside0.mk H
 clear H
 go_enter Tryd.func8, Tryd.ntmps8
 go_upto_region 2 with (first | ((with_reducible refine gate_callee (f := 23) rfl ?_); refine goesL_ (some 10) rfl rfl Tryd.func23 (by kernel_rfl) rfl #[.string (⟨#[115, 116, 111, 114, 101, 32, 50, 32, 49, 32, 49, 48, 32, 49, 48, 48, 32, 52, 32, 56, 10, 114, 101, 97, 100, 32, 49, 32, 48]⟩ : ByteArray)] rfl (by (try simp only [List.map_toArray, List.map_cons, List.map_nil]); first | done | rfl | (simp only [List.length_drop, List.length_take]; rfl)) ?_; (with_reducible refine (script_Parse.calls k (⟨#[115, 116, 111, 114, 101, 32, 50, 32, 49, 32, 49, 48, 32, 49, 48, 48, 32, 52, 32, 56, 10, 114, 101, 97, 100, 32, 49, 32, 48]⟩ : ByteArray) t400 t401 t402 t403 t404 t405 t406 t409 t410 _ ?tab1_ ?tab2_ ?tab3_ A2.out).mono ?_); (case tab1_ => exact tab_keep hTab (by repeat (first | (with_reducible first | exact HB.out | apply below_alloc | apply pw_below_drewN | apply below_drew1) | (with_reducible refine below_set ?_ GE411.out) | exact HB.out))); (case tab2_ => exact tabE_keep hTabE (by repeat (first | (with_reducible first | exact HB.out | apply below_alloc | apply pw_below_drewN | apply below_drew1) | (with_reducible refine below_set ?_ GE411.out) | exact HB.out))); (case tab3_ => exact tabM_keep hTabM (by repeat (first | (with_reducible first | exact HB.out | apply below_alloc | apply pw_below_drewN | apply below_drew1) | (with_reducible refine below_set ?_ GE411.out) | exact HB.out))); rintro e w4 ⟨v407, rfl, ho0, hb⟩; refine ⟨_, rfl, ?_⟩; have n0_ := Aside0.mk (Kd.R_lower ho0 (below_size (by repeat (first | (with_reducible first | exact HB.out | apply below_alloc | apply pw_below_drewN | apply below_drew1) | exact HB.out)))); have n1_ := Aside0.mk (below_step (by repeat (first | (with_reducible first | exact HB.out | apply below_alloc | apply pw_below_drewN | apply below_drew1) | exact HB.out)) hb); clear HB; have HO408 := n0_; have HB := n1_; clear n0_ n1_; (try clear hb); (try clear hb2); (try clear hk); (try clear hi); (try clear ho0)) | ((with_reducible refine gate_dst (N := 3) rfl ?_); (try (refine gate_guard (by rfl) ?_; dsimp only)); refine box_event ?hg (N := 3) ?hd (cs := #[.int .i64 0, .int .i64 0, .int .i64 0, .int .i64 0, .int .i64 0, .int .i64 0, .slice none 0 0]) (t := 26) ?hr ?_; (case hd => rfl); (case hg => rfl); (case hr => first | (go_simp; done) | (go_simp; rfl)); intro gb411 hg w5 hbox hb; have n0_ := Aside0.mk (Kd.R_below (by (with_reducible repeat (first | apply Kd.R_alloc | apply Kd.R_drewN | apply Kd.R_drew)); exact HO408.out) hb); have n1_ := Aside0.mk (below_step (by repeat (first | (with_reducible first | exact HB.out | apply below_alloc | apply pw_below_drewN | apply below_drew1) | exact HB.out)) hb); have n2_ := Aside0.mk (hbox); have n3_ := Aside0.mk ((by rw [hg]; exact (below_size (by repeat (first | (with_reducible first | exact HB.out | apply below_alloc | apply pw_below_drewN | apply below_drew1) | exact HB.out))) : w.heap.size ≤ gb411)); have n4_ := Aside0.mk ((by rw [hg]; exact (below_size (by repeat (first | (with_reducible first | exact HB.out | apply below_alloc | apply pw_below_drewN | apply below_drew1) | exact HB.out))) : w.heap.size ≤ gb411)); clear HO408; clear HB; have HO408 := n0_; have HB := n1_; have BK411 := n2_; have GW411 := n3_; have GE411 := n4_; clear n0_ n1_ n2_ n3_ n4_; clear hb hbox hg; have hcz6_0 : w5.cell? ⟨gb411, 0, none⟩ = some (.int .i64 0) := (blk_cell BK411.out 0).trans rfl; have hcz6_1 : w5.cell? ⟨gb411, 1, none⟩ = some (.int .i64 0) := (blk_cell BK411.out 1).trans rfl; have hcz6_2 : w5.cell? ⟨gb411, 2, none⟩ = some (.int .i64 0) := (blk_cell BK411.out 2).trans rfl; have hcz6_3 : w5.cell? ⟨gb411, 3, none⟩ = some (.int .i64 0) := (blk_cell BK411.out 3).trans rfl; have hcz6_4 : w5.cell? ⟨gb411, 4, none⟩ = some (.int .i64 0) := (blk_cell BK411.out 4).trans rfl; have hcz6_5 : w5.cell? ⟨gb411, 5, none⟩ = some (.int .i64 0) := (blk_cell BK411.out 5).trans rfl; have hcz6_6 : w5.cell? ⟨gb411, 6, none⟩ = some (.slice none 0 0) := (blk_cell BK411.out 6).trans rfl; have hfz6_0 := blk_frozen BK411.out 0; have hfz6_1 := blk_frozen BK411.out 1; have hfz6_2 := blk_frozen BK411.out 2; have hfz6_3 := blk_frozen BK411.out 3; have hfz6_4 := blk_frozen BK411.out 4; have hfz6_5 := blk_frozen BK411.out 5; have hfz6_6 := blk_frozen BK411.out 6; obtain ⟨Ao7, co7, eo7⟩ := Kd.R_slice HO408.out; subst eo7))
 (try simp only [Act.put, List.setIfInBounds_toArray, List.set_cons_zero, List.set_cons_succ])
 go_cut [39] (fun v39 wc => ∃ (kq : Nat) (x39_2 : Bool), v39 = .bool x39_2 ∧ Aside0 (barrowlaw24_ScriptParses.j0 kq a0 x39_2 = some r) ∧ Aside0 (kq ≤ k) ∧ Aside0 (Kd.R k29 29 wc w.heap.size (fun _ => True) (.slice Ao7 t406.length co7) t406) ∧ Aside0 (wc.heap[gb411]? = some (.cells #[.int .i64 t400, .int .i64 t401, .int .i64 t402, .int .i64 t403, .int .i64 t404, .int .i64 t405, (.slice Ao7 t406.length co7)] 26 (0, 0))) ∧ Aside0 (Below w.heap.size w wc))
 case first =>
  have H := HC3.out
  clear HC3
  by_cases c8 : t410 = 0
  ·rw [if_pos c8] at H
   have c8b0 : (t410 == 0) = true := beq_iff_eq.mpr c8
   have c8b1 : (t410 != 0) = false := bne_eq_false_iff_eq.mpr c8
   clear c8
   (first | rw [c8b0] | (simp only [i64_w, i32_w]; rw [c8b0]) | skip)
   by_cases c9 : t409 = 0
   ·rw [if_pos c9] at H
    have c9b0 : (t409 == 0) = true := beq_iff_eq.mpr c9
    have c9b1 : (t409 != 0) = false := bne_eq_false_iff_eq.mpr c9
    clear c9
    by_cases c10 : t402 = 10
    ·rw [if_pos c10] at H
     have c10b0 : (t402 == 10) = true := beq_iff_eq.mpr c10
     have c10b1 : (t402 != 10) = false := bne_eq_false_iff_eq.mpr c10
     clear c10
     by_cases c11 : (t406.length : Int) = 1
     ·rw [if_pos c11] at H
      have c11b0 : ((t406.length : Int) == 1) = true := beq_iff_eq.mpr c11
      have c11b1 : ((t406.length : Int) != 1) = false := bne_eq_false_iff_eq.mpr c11
      clear c11
      by_cases c12 : 0 < (t406.length : Int)
      ·rw [if_pos c12] at H
       have c12b0 : decide (0 < (t406.length : Int)) = true := decide_eq_true c12
       have c12b1 : decide (0 < t406.length) = true := decide_eq_true (by omega)
       clear c12
       have H' := Aside0.mk H
       clear H
       have hcz13_0 : w5.cell? ⟨gb411, 0, none⟩ = some (.int .i64 0) := (blk_cell BK411.out 0).trans rfl
       have hcz13_1 : w5.cell? ⟨gb411, 1, none⟩ = some (.int .i64 0) := (blk_cell BK411.out 1).trans rfl
       have hcz13_2 : w5.cell? ⟨gb411, 2, none⟩ = some (.int .i64 0) := (blk_cell BK411.out 2).trans rfl
       have hcz13_3 : w5.cell? ⟨gb411, 3, none⟩ = some (.int .i64 0) := (blk_cell BK411.out 3).trans rfl
       have hcz13_4 : w5.cell? ⟨gb411, 4, none⟩ = some (.int .i64 0) := (blk_cell BK411.out 4).trans rfl
       have hcz13_5 : w5.cell? ⟨gb411, 5, none⟩ = some (.int .i64 0) := (blk_cell BK411.out 5).trans rfl
       have hcz13_6 : w5.cell? ⟨gb411, 6, none⟩ = some (.slice none 0 0) := (blk_cell BK411.out 6).trans rfl
       have hfz13_0 := blk_frozen BK411.out 0
       have hfz13_1 := blk_frozen BK411.out 1
       have hfz13_2 := blk_frozen BK411.out 2
       have hfz13_3 := blk_frozen BK411.out 3
       have hfz13_4 := blk_frozen BK411.out 4
       have hfz13_5 := blk_frozen BK411.out 5
       have hfz13_6 := blk_frozen BK411.out 6
       have p412 : 0 ≤ (0 : Int) := (by omega)
       have q412 : 0 < (t406.length : Int) := of_decide_eq_true (by first | (with_reducible assumption) | assumption)
       obtain ⟨ad412, e412, hx412_0, hx412_1, hx412_2, hx412_3, hx412_4, hx412_5, hx412_6⟩ := at_T29 (Kd.R_reads' HO408.out).2.2 0 p412 q412
       cases e412
       have qi412 : (0 < t406.length) = True := eq_true (by omega)
       (try rw [show ((0 : Int)).toNat = 0 from rfl] at hx412_0)
       (try rw [show 0 * 7 = 0 from rfl] at hx412_0)
       (try rw [Addr.add_zero'] at hx412_0)
       (try rw [show ((0 : Int)).toNat = 0 from rfl] at hx412_1)
       (try rw [show 0 * 7 = 0 from rfl] at hx412_1)
       (try rw [Addr.add_zero'] at hx412_1)
       (try rw [show ((0 : Int)).toNat = 0 from rfl] at hx412_2)
       (try rw [show 0 * 7 = 0 from rfl] at hx412_2)
       (try rw [Addr.add_zero'] at hx412_2)
       (try rw [show ((0 : Int)).toNat = 0 from rfl] at hx412_3)
       (try rw [show 0 * 7 = 0 from rfl] at hx412_3)
       (try rw [Addr.add_zero'] at hx412_3)
       (try rw [show ((0 : Int)).toNat = 0 from rfl] at hx412_4)
       (try rw [show 0 * 7 = 0 from rfl] at hx412_4)
       (try rw [Addr.add_zero'] at hx412_4)
       (try rw [show ((0 : Int)).toNat = 0 from rfl] at hx412_5)
       (try rw [show 0 * 7 = 0 from rfl] at hx412_5)
       (try rw [Addr.add_zero'] at hx412_5)
       (try rw [show ((0 : Int)).toNat = 0 from rfl] at hx412_6)
       (try rw [show 0 * 7 = 0 from rfl] at hx412_6)
       (try rw [Addr.add_zero'] at hx412_6)
       have hn412_0 : ad412.block ≠ gb411 := Kd.own_blk (Kd.R_ne HO408.out BK411.out (by decide))
       have hn412_1 : ad412.block ≠ gb411 := Kd.own_blk (Kd.R_ne HO408.out BK411.out (by decide))
       have hn412_2 : ad412.block ≠ gb411 := Kd.own_blk (Kd.R_ne HO408.out BK411.out (by decide))
       have hn412_3 : ad412.block ≠ gb411 := Kd.own_blk (Kd.R_ne HO408.out BK411.out (by decide))
       have hn412_4 : ad412.block ≠ gb411 := Kd.own_blk (Kd.R_ne HO408.out BK411.out (by decide))
       have hn412_5 : ad412.block ≠ gb411 := Kd.own_blk (Kd.R_ne HO408.out BK411.out (by decide))
       have hn412_6 : ad412.block ≠ gb411 := Kd.own_blk (Kd.R_ne HO408.out BK411.out (by decide))
       replace hx412_0 := (cell_far (p := ⟨gb411, 0, none⟩) (by first | (rw [add_block]; exact hn412_0) | (show (Addr.add _ _).block ≠ _; rw [add_block]; exact hn412_0) | exact hn412_0) (.int .i64 t400)).trans hx412_0
       replace hx412_1 := (cell_far (p := ⟨gb411, 0, none⟩) (by first | (rw [add_block]; exact hn412_0) | (show (Addr.add _ _).block ≠ _; rw [add_block]; exact hn412_0) | exact hn412_0) (.int .i64 t400)).trans hx412_1
       replace hx412_2 := (cell_far (p := ⟨gb411, 0, none⟩) (by first | (rw [add_block]; exact hn412_0) | (show (Addr.add _ _).block ≠ _; rw [add_block]; exact hn412_0) | exact hn412_0) (.int .i64 t400)).trans hx412_2
       replace hx412_3 := (cell_far (p := ⟨gb411, 0, none⟩) (by first | (rw [add_block]; exact hn412_0) | (show (Addr.add _ _).block ≠ _; rw [add_block]; exact hn412_0) | exact hn412_0) (.int .i64 t400)).trans hx412_3
       replace hx412_4 := (cell_far (p := ⟨gb411, 0, none⟩) (by first | (rw [add_block]; exact hn412_0) | (show (Addr.add _ _).block ≠ _; rw [add_block]; exact hn412_0) | exact hn412_0) (.int .i64 t400)).trans hx412_4
       replace hx412_5 := (cell_far (p := ⟨gb411, 0, none⟩) (by first | (rw [add_block]; exact hn412_0) | (show (Addr.add _ _).block ≠ _; rw [add_block]; exact hn412_0) | exact hn412_0) (.int .i64 t400)).trans hx412_5
       replace hx412_6 := (cell_far (p := ⟨gb411, 0, none⟩) (by first | (rw [add_block]; exact hn412_0) | (show (Addr.add _ _).block ≠ _; rw [add_block]; exact hn412_0) | exact hn412_0) (.int .i64 t400)).trans hx412_6
       replace hx412_0 := (cell_far (p := ⟨gb411, 1, none⟩) (by first | (rw [add_block]; exact hn412_1) | (show (Addr.add _ _).block ≠ _; rw [add_block]; exact hn412_1) | exact hn412_1) (.int .i64 t401)).trans hx412_0
       replace hx412_1 := (cell_far (p := ⟨gb411, 1, none⟩) (by first | (rw [add_block]; exact hn412_1) | (show (Addr.add _ _).block ≠ _; rw [add_block]; exact hn412_1) | exact hn412_1) (.int .i64 t401)).trans hx412_1
       replace hx412_2 := (cell_far (p := ⟨gb411, 1, none⟩) (by first | (rw [add_block]; exact hn412_1) | (show (Addr.add _ _).block ≠ _; rw [add_block]; exact hn412_1) | exact hn412_1) (.int .i64 t401)).trans hx412_2
       replace hx412_3 := (cell_far (p := ⟨gb411, 1, none⟩) (by first | (rw [add_block]; exact hn412_1) | (show (Addr.add _ _).block ≠ _; rw [add_block]; exact hn412_1) | exact hn412_1) (.int .i64 t401)).trans hx412_3
       replace hx412_4 := (cell_far (p := ⟨gb411, 1, none⟩) (by first | (rw [add_block]; exact hn412_1) | (show (Addr.add _ _).block ≠ _; rw [add_block]; exact hn412_1) | exact hn412_1) (.int .i64 t401)).trans hx412_4
       replace hx412_5 := (cell_far (p := ⟨gb411, 1, none⟩) (by first | (rw [add_block]; exact hn412_1) | (show (Addr.add _ _).block ≠ _; rw [add_block]; exact hn412_1) | exact hn412_1) (.int .i64 t401)).trans hx412_5
       replace hx412_6 := (cell_far (p := ⟨gb411, 1, none⟩) (by first | (rw [add_block]; exact hn412_1) | (show (Addr.add _ _).block ≠ _; rw [add_block]; exact hn412_1) | exact hn412_1) (.int .i64 t401)).trans hx412_6
       replace hx412_0 := (cell_far (p := ⟨gb411, 2, none⟩) (by first | (rw [add_block]; exact hn412_2) | (show (Addr.add _ _).block ≠ _; rw [add_block]; exact hn412_2) | exact hn412_2) (.int .i64 t402)).trans hx412_0
       replace hx412_1 := (cell_far (p := ⟨gb411, 2, none⟩) (by first | (rw [add_block]; exact hn412_2) | (show (Addr.add _ _).block ≠ _; rw [add_block]; exact hn412_2) | exact hn412_2) (.int .i64 t402)).trans hx412_1
       replace hx412_2 := (cell_far (p := ⟨gb411, 2, none⟩) (by first | (rw [add_block]; exact hn412_2) | (show (Addr.add _ _).block ≠ _; rw [add_block]; exact hn412_2) | exact hn412_2) (.int .i64 t402)).trans hx412_2
       replace hx412_3 := (cell_far (p := ⟨gb411, 2, none⟩) (by first | (rw [add_block]; exact hn412_2) | (show (Addr.add _ _).block ≠ _; rw [add_block]; exact hn412_2) | exact hn412_2) (.int .i64 t402)).trans hx412_3
       replace hx412_4 := (cell_far (p := ⟨gb411, 2, none⟩) (by first | (rw [add_block]; exact hn412_2) | (show (Addr.add _ _).block ≠ _; rw [add_block]; exact hn412_2) | exact hn412_2) (.int .i64 t402)).trans hx412_4
       replace hx412_5 := (cell_far (p := ⟨gb411, 2, none⟩) (by first | (rw [add_block]; exact hn412_2) | (show (Addr.add _ _).block ≠ _; rw [add_block]; exact hn412_2) | exact hn412_2) (.int .i64 t402)).trans hx412_5
       replace hx412_6 := (cell_far (p := ⟨gb411, 2, none⟩) (by first | (rw [add_block]; exact hn412_2) | (show (Addr.add _ _).block ≠ _; rw [add_block]; exact hn412_2) | exact hn412_2) (.int .i64 t402)).trans hx412_6
       replace hx412_0 := (cell_far (p := ⟨gb411, 3, none⟩) (by first | (rw [add_block]; exact hn412_3) | (show (Addr.add _ _).block ≠ _; rw [add_block]; exact hn412_3) | exact hn412_3) (.int .i64 t403)).trans hx412_0
       replace hx412_1 := (cell_far (p := ⟨gb411, 3, none⟩) (by first | (rw [add_block]; exact hn412_3) | (show (Addr.add _ _).block ≠ _; rw [add_block]; exact hn412_3) | exact hn412_3) (.int .i64 t403)).trans hx412_1
       replace hx412_2 := (cell_far (p := ⟨gb411, 3, none⟩) (by first | (rw [add_block]; exact hn412_3) | (show (Addr.add _ _).block ≠ _; rw [add_block]; exact hn412_3) | exact hn412_3) (.int .i64 t403)).trans hx412_2
       replace hx412_3 := (cell_far (p := ⟨gb411, 3, none⟩) (by first | (rw [add_block]; exact hn412_3) | (show (Addr.add _ _).block ≠ _; rw [add_block]; exact hn412_3) | exact hn412_3) (.int .i64 t403)).trans hx412_3
       replace hx412_4 := (cell_far (p := ⟨gb411, 3, none⟩) (by first | (rw [add_block]; exact hn412_3) | (show (Addr.add _ _).block ≠ _; rw [add_block]; exact hn412_3) | exact hn412_3) (.int .i64 t403)).trans hx412_4
       replace hx412_5 := (cell_far (p := ⟨gb411, 3, none⟩) (by first | (rw [add_block]; exact hn412_3) | (show (Addr.add _ _).block ≠ _; rw [add_block]; exact hn412_3) | exact hn412_3) (.int .i64 t403)).trans hx412_5
       replace hx412_6 := (cell_far (p := ⟨gb411, 3, none⟩) (by first | (rw [add_block]; exact hn412_3) | (show (Addr.add _ _).block ≠ _; rw [add_block]; exact hn412_3) | exact hn412_3) (.int .i64 t403)).trans hx412_6
       replace hx412_0 := (cell_far (p := ⟨gb411, 4, none⟩) (by first | (rw [add_block]; exact hn412_4) | (show (Addr.add _ _).block ≠ _; rw [add_block]; exact hn412_4) | exact hn412_4) (.int .i64 t404)).trans hx412_0
       replace hx412_1 := (cell_far (p := ⟨gb411, 4, none⟩) (by first | (rw [add_block]; exact hn412_4) | (show (Addr.add _ _).block ≠ _; rw [add_block]; exact hn412_4) | exact hn412_4) (.int .i64 t404)).trans hx412_1
       replace hx412_2 := (cell_far (p := ⟨gb411, 4, none⟩) (by first | (rw [add_block]; exact hn412_4) | (show (Addr.add _ _).block ≠ _; rw [add_block]; exact hn412_4) | exact hn412_4) (.int .i64 t404)).trans hx412_2
       replace hx412_3 := (cell_far (p := ⟨gb411, 4, none⟩) (by first | (rw [add_block]; exact hn412_4) | (show (Addr.add _ _).block ≠ _; rw [add_block]; exact hn412_4) | exact hn412_4) (.int .i64 t404)).trans hx412_3
       replace hx412_4 := (cell_far (p := ⟨gb411, 4, none⟩) (by first | (rw [add_block]; exact hn412_4) | (show (Addr.add _ _).block ≠ _; rw [add_block]; exact hn412_4) | exact hn412_4) (.int .i64 t404)).trans hx412_4
       replace hx412_5 := (cell_far (p := ⟨gb411, 4, none⟩) (by first | (rw [add_block]; exact hn412_4) | (show (Addr.add _ _).block ≠ _; rw [add_block]; exact hn412_4) | exact hn412_4) (.int .i64 t404)).trans hx412_5
       replace hx412_6 := (cell_far (p := ⟨gb411, 4, none⟩) (by first | (rw [add_block]; exact hn412_4) | (show (Addr.add _ _).block ≠ _; rw [add_block]; exact hn412_4) | exact hn412_4) (.int .i64 t404)).trans hx412_6
       replace hx412_0 := (cell_far (p := ⟨gb411, 5, none⟩) (by first | (rw [add_block]; exact hn412_5) | (show (Addr.add _ _).block ≠ _; rw [add_block]; exact hn412_5) | exact hn412_5) (.int .i64 t405)).trans hx412_0
       replace hx412_1 := (cell_far (p := ⟨gb411, 5, none⟩) (by first | (rw [add_block]; exact hn412_5) | (show (Addr.add _ _).block ≠ _; rw [add_block]; exact hn412_5) | exact hn412_5) (.int .i64 t405)).trans hx412_1
       replace hx412_2 := (cell_far (p := ⟨gb411, 5, none⟩) (by first | (rw [add_block]; exact hn412_5) | (show (Addr.add _ _).block ≠ _; rw [add_block]; exact hn412_5) | exact hn412_5) (.int .i64 t405)).trans hx412_2
       replace hx412_3 := (cell_far (p := ⟨gb411, 5, none⟩) (by first | (rw [add_block]; exact hn412_5) | (show (Addr.add _ _).block ≠ _; rw [add_block]; exact hn412_5) | exact hn412_5) (.int .i64 t405)).trans hx412_3
       replace hx412_4 := (cell_far (p := ⟨gb411, 5, none⟩) (by first | (rw [add_block]; exact hn412_5) | (show (Addr.add _ _).block ≠ _; rw [add_block]; exact hn412_5) | exact hn412_5) (.int .i64 t405)).trans hx412_4
       replace hx412_5 := (cell_far (p := ⟨gb411, 5, none⟩) (by first | (rw [add_block]; exact hn412_5) | (show (Addr.add _ _).block ≠ _; rw [add_block]; exact hn412_5) | exact hn412_5) (.int .i64 t405)).trans hx412_5
       replace hx412_6 := (cell_far (p := ⟨gb411, 5, none⟩) (by first | (rw [add_block]; exact hn412_5) | (show (Addr.add _ _).block ≠ _; rw [add_block]; exact hn412_5) | exact hn412_5) (.int .i64 t405)).trans hx412_6
       replace hx412_0 := (cell_far (p := ⟨gb411, 6, none⟩) (by first | (rw [add_block]; exact hn412_6) | (show (Addr.add _ _).block ≠ _; rw [add_block]; exact hn412_6) | exact hn412_6) (.slice (some ad412) t406.length co7)).trans hx412_0
       replace hx412_1 := (cell_far (p := ⟨gb411, 6, none⟩) (by first | (rw [add_block]; exact hn412_6) | (show (Addr.add _ _).block ≠ _; rw [add_block]; exact hn412_6) | exact hn412_6) (.slice (some ad412) t406.length co7)).trans hx412_1
       replace hx412_2 := (cell_far (p := ⟨gb411, 6, none⟩) (by first | (rw [add_block]; exact hn412_6) | (show (Addr.add _ _).block ≠ _; rw [add_block]; exact hn412_6) | exact hn412_6) (.slice (some ad412) t406.length co7)).trans hx412_2
       replace hx412_3 := (cell_far (p := ⟨gb411, 6, none⟩) (by first | (rw [add_block]; exact hn412_6) | (show (Addr.add _ _).block ≠ _; rw [add_block]; exact hn412_6) | exact hn412_6) (.slice (some ad412) t406.length co7)).trans hx412_3
       replace hx412_4 := (cell_far (p := ⟨gb411, 6, none⟩) (by first | (rw [add_block]; exact hn412_6) | (show (Addr.add _ _).block ≠ _; rw [add_block]; exact hn412_6) | exact hn412_6) (.slice (some ad412) t406.length co7)).trans hx412_4
       replace hx412_5 := (cell_far (p := ⟨gb411, 6, none⟩) (by first | (rw [add_block]; exact hn412_6) | (show (Addr.add _ _).block ≠ _; rw [add_block]; exact hn412_6) | exact hn412_6) (.slice (some ad412) t406.length co7)).trans hx412_5
       replace hx412_6 := (cell_far (p := ⟨gb411, 6, none⟩) (by first | (rw [add_block]; exact hn412_6) | (show (Addr.add _ _).block ≠ _; rw [add_block]; exact hn412_6) | exact hn412_6) (.slice (some ad412) t406.length co7)).trans hx412_6
       clear hn412_0
       clear hn412_1
       clear hn412_2
       clear hn412_3
       clear hn412_4
       clear hn412_5
       clear hn412_6
       replace p412 := eq_true p412
       replace q412 := eq_true q412
       go_wp2
       go_meet
       case rel => exact ⟨_, ((((rd_T29 t406 0).f0) != 7)), (by first | rfl | (simp; done) | (simp [*]; done)), H', ⟨by first | omega | exact Nat.le_refl _⟩, ⟨by (with_reducible repeat (first | apply Kd.R_alloc | apply Kd.R_drewN | apply Kd.R_drew)); exact Kd.R_mono (Kd.R_far (p := ⟨gb411, 6, none⟩) (Kd.R_far (p := ⟨gb411, 5, none⟩) (Kd.R_far (p := ⟨gb411, 4, none⟩) (Kd.R_far (p := ⟨gb411, 3, none⟩) (Kd.R_far (p := ⟨gb411, 2, none⟩) (Kd.R_far (p := ⟨gb411, 1, none⟩) (Kd.R_far (p := ⟨gb411, 0, none⟩) (Kd.R_types HO408.out BK411.out (by decide)) (fun _ hk => hk.2) (.int .i64 t400)) (fun _ hk => hk.2) (.int .i64 t401)) (fun _ hk => hk.2) (.int .i64 t402)) (fun _ hk => hk.2) (.int .i64 t403)) (fun _ hk => hk.2) (.int .i64 t404)) (fun _ hk => hk.2) (.int .i64 t405)) (fun _ hk => hk.2) (.slice (some ad412) t406.length co7)) (fun _ hk => trivial)⟩, ⟨by (with_reducible repeat (first | refine blk_drewN ?_ _ | refine blk_drew ?_ | refine blk_alloc ?_ _)); refine blk_put (cs := #[.int .i64 t400, .int .i64 t401, .int .i64 t402, .int .i64 t403, .int .i64 t404, .int .i64 t405, .slice none 0 0]) ?_ 6 _ rfl; (with_reducible repeat (first | refine blk_drewN ?_ _ | refine blk_drew ?_ | refine blk_alloc ?_ _)); refine blk_put (cs := #[.int .i64 t400, .int .i64 t401, .int .i64 t402, .int .i64 t403, .int .i64 t404, .int .i64 0, .slice none 0 0]) ?_ 5 _ rfl; (with_reducible repeat (first | refine blk_drewN ?_ _ | refine blk_drew ?_ | refine blk_alloc ?_ _)); refine blk_put (cs := #[.int .i64 t400, .int .i64 t401, .int .i64 t402, .int .i64 t403, .int .i64 0, .int .i64 0, .slice none 0 0]) ?_ 4 _ rfl; (with_reducible repeat (first | refine blk_drewN ?_ _ | refine blk_drew ?_ | refine blk_alloc ?_ _)); refine blk_put (cs := #[.int .i64 t400, .int .i64 t401, .int .i64 t402, .int .i64 0, .int .i64 0, .int .i64 0, .slice none 0 0]) ?_ 3 _ rfl; (with_reducible repeat (first | refine blk_drewN ?_ _ | refine blk_drew ?_ | refine blk_alloc ?_ _)); refine blk_put (cs := #[.int .i64 t400, .int .i64 t401, .int .i64 0, .int .i64 0, .int .i64 0, .int .i64 0, .slice none 0 0]) ?_ 2 _ rfl; (with_reducible repeat (first | refine blk_drewN ?_ _ | refine blk_drew ?_ | refine blk_alloc ?_ _)); refine blk_put (cs := #[.int .i64 t400, .int .i64 0, .int .i64 0, .int .i64 0, .int .i64 0, .int .i64 0, .slice none 0 0]) ?_ 1 _ rfl; (with_reducible repeat (first | refine blk_drewN ?_ _ | refine blk_drew ?_ | refine blk_alloc ?_ _)); refine blk_put (cs := #[.int .i64 0, .int .i64 0, .int .i64 0, .int .i64 0, .int .i64 0, .int .i64 0, .slice none 0 0]) ?_ 0 _ rfl; (with_reducible repeat (first | refine blk_drewN ?_ _ | refine blk_drew ?_ | refine blk_alloc ?_ _)); exact BK411.out⟩, ⟨by repeat (first | (with_reducible first | exact HB.out | apply below_alloc | apply pw_below_drewN | apply below_drew1 | refine below_set ?_ GE411.out) | exact HB.out)⟩⟩
      ·rw [if_neg c12] at H
       exact absurd H (by simp)
     ·rw [if_neg c11] at H
      have c11b0 : ((t406.length : Int) == 1) = false := beq_eq_false_iff_ne.mpr c11
      have c11b1 : ((t406.length : Int) != 1) = true := bne_iff_ne.mpr c11
      have H' := Aside0.mk H
      clear H
      have hcz14_0 : w5.cell? ⟨gb411, 0, none⟩ = some (.int .i64 0) := (blk_cell BK411.out 0).trans rfl
      have hcz14_1 : w5.cell? ⟨gb411, 1, none⟩ = some (.int .i64 0) := (blk_cell BK411.out 1).trans rfl
      have hcz14_2 : w5.cell? ⟨gb411, 2, none⟩ = some (.int .i64 0) := (blk_cell BK411.out 2).trans rfl
      have hcz14_3 : w5.cell? ⟨gb411, 3, none⟩ = some (.int .i64 0) := (blk_cell BK411.out 3).trans rfl
      have hcz14_4 : w5.cell? ⟨gb411, 4, none⟩ = some (.int .i64 0) := (blk_cell BK411.out 4).trans rfl
      have hcz14_5 : w5.cell? ⟨gb411, 5, none⟩ = some (.int .i64 0) := (blk_cell BK411.out 5).trans rfl
      have hcz14_6 : w5.cell? ⟨gb411, 6, none⟩ = some (.slice none 0 0) := (blk_cell BK411.out 6).trans rfl
      have hfz14_0 := blk_frozen BK411.out 0
      have hfz14_1 := blk_frozen BK411.out 1
      have hfz14_2 := blk_frozen BK411.out 2
      have hfz14_3 := blk_frozen BK411.out 3
      have hfz14_4 := blk_frozen BK411.out 4
      have hfz14_5 := blk_frozen BK411.out 5
      have hfz14_6 := blk_frozen BK411.out 6
      go_wp2
      go_meet
      case rel => exact ⟨_, (true), (by first | rfl | (simp; done) | (simp [*]; done)), H', ⟨by first | omega | exact Nat.le_refl _⟩, ⟨by (with_reducible repeat (first | apply Kd.R_alloc | apply Kd.R_drewN | apply Kd.R_drew)); exact Kd.R_mono (Kd.R_far (p := ⟨gb411, 6, none⟩) (Kd.R_far (p := ⟨gb411, 5, none⟩) (Kd.R_far (p := ⟨gb411, 4, none⟩) (Kd.R_far (p := ⟨gb411, 3, none⟩) (Kd.R_far (p := ⟨gb411, 2, none⟩) (Kd.R_far (p := ⟨gb411, 1, none⟩) (Kd.R_far (p := ⟨gb411, 0, none⟩) (Kd.R_types HO408.out BK411.out (by decide)) (fun _ hk => hk.2) (.int .i64 t400)) (fun _ hk => hk.2) (.int .i64 t401)) (fun _ hk => hk.2) (.int .i64 t402)) (fun _ hk => hk.2) (.int .i64 t403)) (fun _ hk => hk.2) (.int .i64 t404)) (fun _ hk => hk.2) (.int .i64 t405)) (fun _ hk => hk.2) (.slice Ao7 t406.length co7)) (fun _ hk => trivial)⟩, ⟨by (with_reducible repeat (first | refine blk_drewN ?_ _ | refine blk_drew ?_ | refine blk_alloc ?_ _)); refine blk_put (cs := #[.int .i64 t400, .int .i64 t401, .int .i64 t402, .int .i64 t403, .int .i64 t404, .int .i64 t405, .slice none 0 0]) ?_ 6 _ rfl; (with_reducible repeat (first | refine blk_drewN ?_ _ | refine blk_drew ?_ | refine blk_alloc ?_ _)); refine blk_put (cs := #[.int .i64 t400, .int .i64 t401, .int .i64 t402, .int .i64 t403, .int .i64 t404, .int .i64 0, .slice none 0 0]) ?_ 5 _ rfl; (with_reducible repeat (first | refine blk_drewN ?_ _ | refine blk_drew ?_ | refine blk_alloc ?_ _)); refine blk_put (cs := #[.int .i64 t400, .int .i64 t401, .int .i64 t402, .int .i64 t403, .int .i64 0, .int .i64 0, .slice none 0 0]) ?_ 4 _ rfl; (with_reducible repeat (first | refine blk_drewN ?_ _ | refine blk_drew ?_ | refine blk_alloc ?_ _)); refine blk_put (cs := #[.int .i64 t400, .int .i64 t401, .int .i64 t402, .int .i64 0, .int .i64 0, .int .i64 0, .slice none 0 0]) ?_ 3 _ rfl; (with_reducible repeat (first | refine blk_drewN ?_ _ | refine blk_drew ?_ | refine blk_alloc ?_ _)); refine blk_put (cs := #[.int .i64 t400, .int .i64 t401, .int .i64 0, .int .i64 0, .int .i64 0, .int .i64 0, .slice none 0 0]) ?_ 2 _ rfl; (with_reducible repeat (first | refine blk_drewN ?_ _ | refine blk_drew ?_ | refine blk_alloc ?_ _)); refine blk_put (cs := #[.int .i64 t400, .int .i64 0, .int .i64 0, .int .i64 0, .int .i64 0, .int .i64 0, .slice none 0 0]) ?_ 1 _ rfl; (with_reducible repeat (first | refine blk_drewN ?_ _ | refine blk_drew ?_ | refine blk_alloc ?_ _)); refine blk_put (cs := #[.int .i64 0, .int .i64 0, .int .i64 0, .int .i64 0, .int .i64 0, .int .i64 0, .slice none 0 0]) ?_ 0 _ rfl; (with_reducible repeat (first | refine blk_drewN ?_ _ | refine blk_drew ?_ | refine blk_alloc ?_ _)); exact BK411.out⟩, ⟨by repeat (first | (with_reducible first | exact HB.out | apply below_alloc | apply pw_below_drewN | apply below_drew1 | refine below_set ?_ GE411.out) | exact HB.out)⟩⟩
    ·rw [if_neg c10] at H
     have c10b0 : (t402 == 10) = false := beq_eq_false_iff_ne.mpr c10
     have c10b1 : (t402 != 10) = true := bne_iff_ne.mpr c10
     have H' := Aside0.mk H
     clear H
     have hcz15_0 : w5.cell? ⟨gb411, 0, none⟩ = some (.int .i64 0) := (blk_cell BK411.out 0).trans rfl
     have hcz15_1 : w5.cell? ⟨gb411, 1, none⟩ = some (.int .i64 0) := (blk_cell BK411.out 1).trans rfl
     have hcz15_2 : w5.cell? ⟨gb411, 2, none⟩ = some (.int .i64 0) := (blk_cell BK411.out 2).trans rfl
     have hcz15_3 : w5.cell? ⟨gb411, 3, none⟩ = some (.int .i64 0) := (blk_cell BK411.out 3).trans rfl
     have hcz15_4 : w5.cell? ⟨gb411, 4, none⟩ = some (.int .i64 0) := (blk_cell BK411.out 4).trans rfl
     have hcz15_5 : w5.cell? ⟨gb411, 5, none⟩ = some (.int .i64 0) := (blk_cell BK411.out 5).trans rfl
     have hcz15_6 : w5.cell? ⟨gb411, 6, none⟩ = some (.slice none 0 0) := (blk_cell BK411.out 6).trans rfl
     have hfz15_0 := blk_frozen BK411.out 0
     have hfz15_1 := blk_frozen BK411.out 1
     have hfz15_2 := blk_frozen BK411.out 2
     have hfz15_3 := blk_frozen BK411.out 3
     have hfz15_4 := blk_frozen BK411.out 4
     have hfz15_5 := blk_frozen BK411.out 5
     have hfz15_6 := blk_frozen BK411.out 6
     go_wp2
     go_meet
     case rel => exact ⟨_, (true), (by first | rfl | (simp; done) | (simp [*]; done)), H', ⟨by first | omega | exact Nat.le_refl _⟩, ⟨by (with_reducible repeat (first | apply Kd.R_alloc | apply Kd.R_drewN | apply Kd.R_drew)); exact Kd.R_mono (Kd.R_far (p := ⟨gb411, 6, none⟩) (Kd.R_far (p := ⟨gb411, 5, none⟩) (Kd.R_far (p := ⟨gb411, 4, none⟩) (Kd.R_far (p := ⟨gb411, 3, none⟩) (Kd.R_far (p := ⟨gb411, 2, none⟩) (Kd.R_far (p := ⟨gb411, 1, none⟩) (Kd.R_far (p := ⟨gb411, 0, none⟩) (Kd.R_types HO408.out BK411.out (by decide)) (fun _ hk => hk.2) (.int .i64 t400)) (fun _ hk => hk.2) (.int .i64 t401)) (fun _ hk => hk.2) (.int .i64 t402)) (fun _ hk => hk.2) (.int .i64 t403)) (fun _ hk => hk.2) (.int .i64 t404)) (fun _ hk => hk.2) (.int .i64 t405)) (fun _ hk => hk.2) (.slice Ao7 t406.length co7)) (fun _ hk => trivial)⟩, ⟨by (with_reducible repeat (first | refine blk_drewN ?_ _ | refine blk_drew ?_ | refine blk_alloc ?_ _)); refine blk_put (cs := #[.int .i64 t400, .int .i64 t401, .int .i64 t402, .int .i64 t403, .int .i64 t404, .int .i64 t405, .slice none 0 0]) ?_ 6 _ rfl; (with_reducible repeat (first | refine blk_drewN ?_ _ | refine blk_drew ?_ | refine blk_alloc ?_ _)); refine blk_put (cs := #[.int .i64 t400, .int .i64 t401, .int .i64 t402, .int .i64 t403, .int .i64 t404, .int .i64 0, .slice none 0 0]) ?_ 5 _ rfl; (with_reducible repeat (first | refine blk_drewN ?_ _ | refine blk_drew ?_ | refine blk_alloc ?_ _)); refine blk_put (cs := #[.int .i64 t400, .int .i64 t401, .int .i64 t402, .int .i64 t403, .int .i64 0, .int .i64 0, .slice none 0 0]) ?_ 4 _ rfl; (with_reducible repeat (first | refine blk_drewN ?_ _ | refine blk_drew ?_ | refine blk_alloc ?_ _)); refine blk_put (cs := #[.int .i64 t400, .int .i64 t401, .int .i64 t402, .int .i64 0, .int .i64 0, .int .i64 0, .slice none 0 0]) ?_ 3 _ rfl; (with_reducible repeat (first | refine blk_drewN ?_ _ | refine blk_drew ?_ | refine blk_alloc ?_ _)); refine blk_put (cs := #[.int .i64 t400, .int .i64 t401, .int .i64 0, .int .i64 0, .int .i64 0, .int .i64 0, .slice none 0 0]) ?_ 2 _ rfl; (with_reducible repeat (first | refine blk_drewN ?_ _ | refine blk_drew ?_ | refine blk_alloc ?_ _)); refine blk_put (cs := #[.int .i64 t400, .int .i64 0, .int .i64 0, .int .i64 0, .int .i64 0, .int .i64 0, .slice none 0 0]) ?_ 1 _ rfl; (with_reducible repeat (first | refine blk_drewN ?_ _ | refine blk_drew ?_ | refine blk_alloc ?_ _)); refine blk_put (cs := #[.int .i64 0, .int .i64 0, .int .i64 0, .int .i64 0, .int .i64 0, .int .i64 0, .slice none 0 0]) ?_ 0 _ rfl; (with_reducible repeat (first | refine blk_drewN ?_ _ | refine blk_drew ?_ | refine blk_alloc ?_ _)); exact BK411.out⟩, ⟨by repeat (first | (with_reducible first | exact HB.out | apply below_alloc | apply pw_below_drewN | apply below_drew1 | refine below_set ?_ GE411.out) | exact HB.out)⟩⟩
   ·rw [if_neg c9] at H
    have c9b0 : (t409 == 0) = false := beq_eq_false_iff_ne.mpr c9
    have c9b1 : (t409 != 0) = true := bne_iff_ne.mpr c9
    have H' := Aside0.mk H
    clear H
    go_wp2
    go_meet
    case rel => exact ⟨_, (true), (by first | rfl | (simp; done) | (simp [*]; done)), H', ⟨by first | omega | exact Nat.le_refl _⟩, ⟨by (with_reducible repeat (first | apply Kd.R_alloc | apply Kd.R_drewN | apply Kd.R_drew)); exact Kd.R_mono (Kd.R_far (p := ⟨gb411, 6, none⟩) (Kd.R_far (p := ⟨gb411, 5, none⟩) (Kd.R_far (p := ⟨gb411, 4, none⟩) (Kd.R_far (p := ⟨gb411, 3, none⟩) (Kd.R_far (p := ⟨gb411, 2, none⟩) (Kd.R_far (p := ⟨gb411, 1, none⟩) (Kd.R_far (p := ⟨gb411, 0, none⟩) (Kd.R_types HO408.out BK411.out (by decide)) (fun _ hk => hk.2) (.int .i64 t400)) (fun _ hk => hk.2) (.int .i64 t401)) (fun _ hk => hk.2) (.int .i64 t402)) (fun _ hk => hk.2) (.int .i64 t403)) (fun _ hk => hk.2) (.int .i64 t404)) (fun _ hk => hk.2) (.int .i64 t405)) (fun _ hk => hk.2) (.slice Ao7 t406.length co7)) (fun _ hk => trivial)⟩, ⟨by (with_reducible repeat (first | refine blk_drewN ?_ _ | refine blk_drew ?_ | refine blk_alloc ?_ _)); refine blk_put (cs := #[.int .i64 t400, .int .i64 t401, .int .i64 t402, .int .i64 t403, .int .i64 t404, .int .i64 t405, .slice none 0 0]) ?_ 6 _ rfl; (with_reducible repeat (first | refine blk_drewN ?_ _ | refine blk_drew ?_ | refine blk_alloc ?_ _)); refine blk_put (cs := #[.int .i64 t400, .int .i64 t401, .int .i64 t402, .int .i64 t403, .int .i64 t404, .int .i64 0, .slice none 0 0]) ?_ 5 _ rfl; (with_reducible repeat (first | refine blk_drewN ?_ _ | refine blk_drew ?_ | refine blk_alloc ?_ _)); refine blk_put (cs := #[.int .i64 t400, .int .i64 t401, .int .i64 t402, .int .i64 t403, .int .i64 0, .int .i64 0, .slice none 0 0]) ?_ 4 _ rfl; (with_reducible repeat (first | refine blk_drewN ?_ _ | refine blk_drew ?_ | refine blk_alloc ?_ _)); refine blk_put (cs := #[.int .i64 t400, .int .i64 t401, .int .i64 t402, .int .i64 0, .int .i64 0, .int .i64 0, .slice none 0 0]) ?_ 3 _ rfl; (with_reducible repeat (first | refine blk_drewN ?_ _ | refine blk_drew ?_ | refine blk_alloc ?_ _)); refine blk_put (cs := #[.int .i64 t400, .int .i64 t401, .int .i64 0, .int .i64 0, .int .i64 0, .int .i64 0, .slice none 0 0]) ?_ 2 _ rfl; (with_reducible repeat (first | refine blk_drewN ?_ _ | refine blk_drew ?_ | refine blk_alloc ?_ _)); refine blk_put (cs := #[.int .i64 t400, .int .i64 0, .int .i64 0, .int .i64 0, .int .i64 0, .int .i64 0, .slice none 0 0]) ?_ 1 _ rfl; (with_reducible repeat (first | refine blk_drewN ?_ _ | refine blk_drew ?_ | refine blk_alloc ?_ _)); refine blk_put (cs := #[.int .i64 0, .int .i64 0, .int .i64 0, .int .i64 0, .int .i64 0, .int .i64 0, .slice none 0 0]) ?_ 0 _ rfl; (with_reducible repeat (first | refine blk_drewN ?_ _ | refine blk_drew ?_ | refine blk_alloc ?_ _)); exact BK411.out⟩, ⟨by repeat (first | (with_reducible first | exact HB.out | apply below_alloc | apply pw_below_drewN | apply below_drew1 | refine below_set ?_ GE411.out) | exact HB.out)⟩⟩
  ·rw [if_neg c8] at H
   have c8b0 : (t410 == 0) = false := beq_eq_false_iff_ne.mpr c8
   have c8b1 : (t410 != 0) = true := bne_iff_ne.mpr c8
   (first | rw [c8b0] | (simp only [i64_w, i32_w]; rw [c8b0]) | skip)
   have H' := Aside0.mk H
   clear H
   go_wp2
   go_meet
   case rel => exact ⟨_, (true), (by first | rfl | (simp; done) | (simp [*]; done)), H', ⟨by first | omega | exact Nat.le_refl _⟩, ⟨by (with_reducible repeat (first | apply Kd.R_alloc | apply Kd.R_drewN | apply Kd.R_drew)); exact Kd.R_mono (Kd.R_far (p := ⟨gb411, 6, none⟩) (Kd.R_far (p := ⟨gb411, 5, none⟩) (Kd.R_far (p := ⟨gb411, 4, none⟩) (Kd.R_far (p := ⟨gb411, 3, none⟩) (Kd.R_far (p := ⟨gb411, 2, none⟩) (Kd.R_far (p := ⟨gb411, 1, none⟩) (Kd.R_far (p := ⟨gb411, 0, none⟩) (Kd.R_types HO408.out BK411.out (by decide)) (fun _ hk => hk.2) (.int .i64 t400)) (fun _ hk => hk.2) (.int .i64 t401)) (fun _ hk => hk.2) (.int .i64 t402)) (fun _ hk => hk.2) (.int .i64 t403)) (fun _ hk => hk.2) (.int .i64 t404)) (fun _ hk => hk.2) (.int .i64 t405)) (fun _ hk => hk.2) (.slice Ao7 t406.length co7)) (fun _ hk => trivial)⟩, ⟨by (with_reducible repeat (first | refine blk_drewN ?_ _ | refine blk_drew ?_ | refine blk_alloc ?_ _)); refine blk_put (cs := #[.int .i64 t400, .int .i64 t401, .int .i64 t402, .int .i64 t403, .int .i64 t404, .int .i64 t405, .slice none 0 0]) ?_ 6 _ rfl; (with_reducible repeat (first | refine blk_drewN ?_ _ | refine blk_drew ?_ | refine blk_alloc ?_ _)); refine blk_put (cs := #[.int .i64 t400, .int .i64 t401, .int .i64 t402, .int .i64 t403, .int .i64 t404, .int .i64 0, .slice none 0 0]) ?_ 5 _ rfl; (with_reducible repeat (first | refine blk_drewN ?_ _ | refine blk_drew ?_ | refine blk_alloc ?_ _)); refine blk_put (cs := #[.int .i64 t400, .int .i64 t401, .int .i64 t402, .int .i64 t403, .int .i64 0, .int .i64 0, .slice none 0 0]) ?_ 4 _ rfl; (with_reducible repeat (first | refine blk_drewN ?_ _ | refine blk_drew ?_ | refine blk_alloc ?_ _)); refine blk_put (cs := #[.int .i64 t400, .int .i64 t401, .int .i64 t402, .int .i64 0, .int .i64 0, .int .i64 0, .slice none 0 0]) ?_ 3 _ rfl; (with_reducible repeat (first | refine blk_drewN ?_ _ | refine blk_drew ?_ | refine blk_alloc ?_ _)); refine blk_put (cs := #[.int .i64 t400, .int .i64 t401, .int .i64 0, .int .i64 0, .int .i64 0, .int .i64 0, .slice none 0 0]) ?_ 2 _ rfl; (with_reducible repeat (first | refine blk_drewN ?_ _ | refine blk_drew ?_ | refine blk_alloc ?_ _)); refine blk_put (cs := #[.int .i64 t400, .int .i64 0, .int .i64 0, .int .i64 0, .int .i64 0, .int .i64 0, .slice none 0 0]) ?_ 1 _ rfl; (with_reducible repeat (first | refine blk_drewN ?_ _ | refine blk_drew ?_ | refine blk_alloc ?_ _)); refine blk_put (cs := #[.int .i64 0, .int .i64 0, .int .i64 0, .int .i64 0, .int .i64 0, .int .i64 0, .slice none 0 0]) ?_ 0 _ rfl; (with_reducible repeat (first | refine blk_drewN ?_ _ | refine blk_drew ?_ | refine blk_alloc ?_ _)); exact BK411.out⟩, ⟨by repeat (first | (with_reducible first | exact HB.out | apply below_alloc | apply pw_below_drewN | apply below_drew1 | refine below_set ?_ GE411.out) | exact HB.out)⟩⟩
 case rest =>
  clear HC3
  try clear c1
  try clear c2
  try clear p2
  try clear p4
  try clear q4
  try clear hx4
  try clear qi4
  try clear c8
  try clear c8b0
  try clear c8b1
  try clear c9
  try clear c9b0
  try clear c9b1
  try clear c10
  try clear c10b0
  try clear c10b1
  try clear c11
  try clear c11b0
  try clear c11b1
  try clear c12
  try clear c12b0
  try clear c12b1
  try clear hcz13_0
  try clear hcz13_1
  try clear hcz13_2
  try clear hcz13_3
  try clear hcz13_4
  try clear hcz13_5
  try clear hcz13_6
  try clear hcz14_0
  try clear hcz14_1
  try clear hcz14_2
  try clear hcz14_3
  try clear hcz14_4
  try clear hcz14_5
  try clear hcz14_6
  try clear hcz15_0
  try clear hcz15_1
  try clear hcz15_2
  try clear hcz15_3
  try clear hcz15_4
  try clear hcz15_5
  try clear hcz15_6
  try clear hcz6_0
  try clear hcz6_1
  try clear hcz6_2
  try clear hcz6_3
  try clear hcz6_4
  try clear hcz6_5
  try clear hcz6_6
  try clear hfz13_0
  try clear hfz13_1
  try clear hfz13_2
  try clear hfz13_3
  try clear hfz13_4
  try clear hfz13_5
  try clear hfz13_6
  try clear hfz14_0
  try clear hfz14_1
  try clear hfz14_2
  try clear hfz14_3
  try clear hfz14_4
  try clear hfz14_5
  try clear hfz14_6
  try clear hfz15_0
  try clear hfz15_1
  try clear hfz15_2
  try clear hfz15_3
  try clear hfz15_4
  try clear hfz15_5
  try clear hfz15_6
  try clear hfz6_0
  try clear hfz6_1
  try clear hfz6_2
  try clear hfz6_3
  try clear hfz6_4
  try clear hfz6_5
  try clear hfz6_6
  try clear hx412_0
  try clear hx412_1
  try clear hx412_2
  try clear hx412_3
  try clear hx412_4
  try clear hx412_5
  try clear hx412_6
  try clear p412
  try clear q412
  obtain ⟨kq, x39_2, rfl, HA, HJ2, HO_412006, BK411, HB⟩ := hcut
  cases kq with
  | zero => exact absurd HA.out (by simp [barrowlaw24_ScriptParses.j0])
  | succ kj2 =>
   have H := HA.out
   clear HA
   simp only [barrowlaw24_ScriptParses.j0] at H
   by_cases c16 : x39_2 = true
   ·subst c16
    have H1 : (some false) = some r := by rw [if_pos rfl] at H; exact H
    clear H
    have H := H1
    clear H1
    obtain rfl := Option.some.inj H
    go_wp2
    go_ret
    exact ⟨by first | rfl | (simp [errW_none, errW_some] <;> rfl) | (simp [*, errW_none, errW_some] <;> rfl), by repeat (first | (with_reducible first | exact HB.out | apply below_alloc | apply pw_below_drewN | apply below_drew1 | refine below_set ?_ GE411.out) | exact HB.out)⟩
   ·replace c16 := Bool.eq_false_iff.mpr c16
    subst c16
    have H1 : ((script_Parse.f kj2 a0).bind fun bt413 => ((barrowref24_Parse.f kj2 a0).bind fun bt424 => (if bt413.2.2.2.2.2.2.2.2 = bt424.2.2.2.2.2.2.2.2 then (if bt413.2.2.2.2.2.2.2.1 = bt424.2.2.2.2.2.2.2.1 then ((barrowref24_Equal.f kj2 bt413.1 bt413.2.1 bt413.2.2.1 bt413.2.2.2.1 bt413.2.2.2.2.1 bt413.2.2.2.2.2.1 bt413.2.2.2.2.2.2.1 bt424.1 bt424.2.1 bt424.2.2.1 bt424.2.2.2.1 bt424.2.2.2.2.1 bt424.2.2.2.2.2.1 bt424.2.2.2.2.2.2.1).bind fun t436 => (some t436)) else (some false)) else (some false)))) = some r := by rw [if_neg (show ¬ (false = true) by decide)] at H; exact H
    clear H
    have H := H1
    clear H1
    replace H := Option.bind_eq_some_iff.mp H
    obtain ⟨⟨t413, t414, t415, t416, t417, t418, t419, t422, t423⟩, A170, H⟩ := H
    replace H : ((barrowref24_Parse.f kj2 a0).bind fun bt424 => (if t423 = bt424.2.2.2.2.2.2.2.2 then (if t422 = bt424.2.2.2.2.2.2.2.1 then ((barrowref24_Equal.f kj2 t413 t414 t415 t416 t417 t418 t419 bt424.1 bt424.2.1 bt424.2.2.1 bt424.2.2.2.1 bt424.2.2.2.2.1 bt424.2.2.2.2.2.1 bt424.2.2.2.2.2.2.1).bind fun t436 => (some t436)) else (some false)) else (some false))) = some r := H
    have A17 := Aside0.mk A170
    clear A170
    replace H := Option.bind_eq_some_iff.mp H
    obtain ⟨⟨t424, t425, t426, t427, t428, t429, t430, t433, t434⟩, A180, H⟩ := H
    replace H : (if t423 = t434 then (if t422 = t433 then ((barrowref24_Equal.f kj2 t413 t414 t415 t416 t417 t418 t419 t424 t425 t426 t427 t428 t429 t430).bind fun t436 => (some t436)) else (some false)) else (some false)) = some r := H
    have A18 := Aside0.mk A180
    clear A180
    by_cases c19 : t423 = t434
    ·rw [if_pos c19] at H
     have c19b0 : (t423 == t434) = true := beq_iff_eq.mpr c19
     have c19b1 : (t423 != t434) = false := bne_eq_false_iff_eq.mpr c19
     clear c19
     by_cases c20 : t422 = t433
     ·rw [if_pos c20] at H
      have c20b0 : (t422 == t433) = true := beq_iff_eq.mpr c20
      have c20b1 : (t422 != t433) = false := bne_eq_false_iff_eq.mpr c20
      clear c20
      replace H := Option.bind_eq_some_iff.mp H
      obtain ⟨t436, A210, H⟩ := H
      replace H : (some t436) = some r := H
      have A21 := Aside0.mk A210
      clear A210
      obtain rfl := Option.some.inj H
      go_wp2_with (first | ((with_reducible refine gate_callee (f := 23) rfl ?_); refine goesL_ (some 42) rfl rfl Tryd.func23 (by kernel_rfl) rfl #[.string a0] rfl (by (try simp only [List.map_toArray, List.map_cons, List.map_nil]); first | done | rfl | (simp only [List.length_drop, List.length_take]; rfl)) ?_; (with_reducible refine (script_Parse.calls kj2 a0 t413 t414 t415 t416 t417 t418 t419 t422 t423 _ ?tab1_ ?tab2_ ?tab3_ A17.out).mono ?_); (case tab1_ => exact tab_keep hTab (by repeat (first | (with_reducible first | exact HB.out | apply below_alloc | apply pw_below_drewN | apply below_drew1) | (with_reducible refine below_set ?_ GE411.out) | (with_reducible refine below_set ?_ GE435.out) | exact HB.out))); (case tab2_ => exact tabE_keep hTabE (by repeat (first | (with_reducible first | exact HB.out | apply below_alloc | apply pw_below_drewN | apply below_drew1) | (with_reducible refine below_set ?_ GE411.out) | (with_reducible refine below_set ?_ GE435.out) | exact HB.out))); (case tab3_ => exact tabM_keep hTabM (by repeat (first | (with_reducible first | exact HB.out | apply below_alloc | apply pw_below_drewN | apply below_drew1) | (with_reducible refine below_set ?_ GE411.out) | (with_reducible refine below_set ?_ GE435.out) | exact HB.out))); rintro e w22 ⟨v420, rfl, ho0, hb⟩; refine ⟨_, rfl, ?_⟩; have n0_ := Aside0.mk (Kd.R_elder' (by (with_reducible repeat (first | apply Kd.R_alloc | apply Kd.R_drewN | apply Kd.R_drew)); exact HO_412006.out) (Kd.R_base ho0) hb); have n1_ := Aside0.mk (Kd.R_lower (Kd.R_new' ho0 (Kd.R_lt (by (with_reducible repeat (first | apply Kd.R_alloc | apply Kd.R_drewN | apply Kd.R_drew)); exact HO_412006.out))) (below_size (by repeat (first | (with_reducible first | exact HB.out | apply below_alloc | apply pw_below_drewN | apply below_drew1 | refine below_set ?_ GE411.out) | exact HB.out)))); have n2_ := Aside0.mk (blk_below (g := gb411) (o := .cells #[.int .i64 t400, .int .i64 t401, .int .i64 t402, .int .i64 t403, .int .i64 t404, .int .i64 t405, .slice Ao7 t406.length co7] 26 (0, 0)) (by (with_reducible repeat (first | refine blk_drewN ?_ _ | refine blk_drew ?_ | refine blk_alloc ?_ _)); exact BK411.out) hb); have n3_ := Aside0.mk (below_step (by repeat (first | (with_reducible first | exact HB.out | apply below_alloc | apply pw_below_drewN | apply below_drew1 | refine below_set ?_ GE411.out) | exact HB.out)) hb); clear HO_412006; clear BK411; clear HB; have HO_412006 := n0_; have HO421 := n1_; have BK411 := n2_; have HB := n3_; clear n0_ n1_ n2_ n3_; (try clear hb); (try clear hb2); (try clear hk); (try clear hi); (try clear ho0); have hcz23_0 : w22.cell? ⟨gb411, 0, none⟩ = some (.int .i64 t400) := (blk_cell BK411.out 0).trans rfl; have hcz23_1 : w22.cell? ⟨gb411, 1, none⟩ = some (.int .i64 t401) := (blk_cell BK411.out 1).trans rfl; have hcz23_2 : w22.cell? ⟨gb411, 2, none⟩ = some (.int .i64 t402) := (blk_cell BK411.out 2).trans rfl; have hcz23_3 : w22.cell? ⟨gb411, 3, none⟩ = some (.int .i64 t403) := (blk_cell BK411.out 3).trans rfl; have hcz23_4 : w22.cell? ⟨gb411, 4, none⟩ = some (.int .i64 t404) := (blk_cell BK411.out 4).trans rfl; have hcz23_5 : w22.cell? ⟨gb411, 5, none⟩ = some (.int .i64 t405) := (blk_cell BK411.out 5).trans rfl; have hcz23_6 : w22.cell? ⟨gb411, 6, none⟩ = some (.slice Ao7 t406.length co7) := (blk_cell BK411.out 6).trans rfl; have hfz23_0 := blk_frozen BK411.out 0; have hfz23_1 := blk_frozen BK411.out 1; have hfz23_2 := blk_frozen BK411.out 2; have hfz23_3 := blk_frozen BK411.out 3; have hfz23_4 := blk_frozen BK411.out 4; have hfz23_5 := blk_frozen BK411.out 5; have hfz23_6 := blk_frozen BK411.out 6; obtain ⟨Ao24, co24, eo24⟩ := Kd.R_slice HO421.out; subst eo24) | ((with_reducible refine gate_callee (f := 24) rfl ?_); refine goesL_ (some 48) rfl rfl Tryd.func24 (by kernel_rfl) rfl #[.string a0] rfl (by (try simp only [List.map_toArray, List.map_cons, List.map_nil]); first | done | rfl | (simp only [List.length_drop, List.length_take]; rfl)) ?_; (with_reducible refine (barrowref24_Parse.calls kj2 a0 t424 t425 t426 t427 t428 t429 t430 t433 t434 _ A18.out).mono ?_); rintro e w25 ⟨v431, rfl, ho0, hb⟩; refine ⟨_, rfl, ?_⟩; have n0_ := Aside0.mk (Kd.R_elder' (by (with_reducible repeat (first | apply Kd.R_alloc | apply Kd.R_drewN | apply Kd.R_drew)); exact (Kd.R_mono (Kd.R_far (p := ⟨gb411, 6, none⟩) (Kd.R_far (p := ⟨gb411, 5, none⟩) (Kd.R_far (p := ⟨gb411, 4, none⟩) (Kd.R_far (p := ⟨gb411, 3, none⟩) (Kd.R_far (p := ⟨gb411, 2, none⟩) (Kd.R_far (p := ⟨gb411, 1, none⟩) (Kd.R_far (p := ⟨gb411, 0, none⟩) (Kd.R_types HO_412006.out BK411.out (by decide)) (fun _ hk => hk.2) (.int .i64 t413)) (fun _ hk => hk.2) (.int .i64 t414)) (fun _ hk => hk.2) (.int .i64 t415)) (fun _ hk => hk.2) (.int .i64 t416)) (fun _ hk => hk.2) (.int .i64 t417)) (fun _ hk => hk.2) (.int .i64 t418)) (fun _ hk => hk.2) (.slice Ao24 t419.length co24)) (fun _ h_ => h_.1))) (Kd.R_base ho0) hb); have n1_ := Aside0.mk (Kd.R_elder' (by (with_reducible repeat (first | apply Kd.R_alloc | apply Kd.R_drewN | apply Kd.R_drew)); exact (Kd.R_mono (Kd.R_far (p := ⟨gb411, 6, none⟩) (Kd.R_far (p := ⟨gb411, 5, none⟩) (Kd.R_far (p := ⟨gb411, 4, none⟩) (Kd.R_far (p := ⟨gb411, 3, none⟩) (Kd.R_far (p := ⟨gb411, 2, none⟩) (Kd.R_far (p := ⟨gb411, 1, none⟩) (Kd.R_far (p := ⟨gb411, 0, none⟩) (Kd.R_types HO421.out BK411.out (by decide)) (fun _ hk => hk.2) (.int .i64 t413)) (fun _ hk => hk.2) (.int .i64 t414)) (fun _ hk => hk.2) (.int .i64 t415)) (fun _ hk => hk.2) (.int .i64 t416)) (fun _ hk => hk.2) (.int .i64 t417)) (fun _ hk => hk.2) (.int .i64 t418)) (fun _ hk => hk.2) (.slice Ao24 t419.length co24)) (fun _ h_ => h_.1))) (Kd.R_base ho0) hb); have n2_ := Aside0.mk (Kd.R_lower (Kd.R_new' (Kd.R_new' ho0 (Kd.R_lt (by (with_reducible repeat (first | apply Kd.R_alloc | apply Kd.R_drewN | apply Kd.R_drew)); exact (Kd.R_mono (Kd.R_far (p := ⟨gb411, 6, none⟩) (Kd.R_far (p := ⟨gb411, 5, none⟩) (Kd.R_far (p := ⟨gb411, 4, none⟩) (Kd.R_far (p := ⟨gb411, 3, none⟩) (Kd.R_far (p := ⟨gb411, 2, none⟩) (Kd.R_far (p := ⟨gb411, 1, none⟩) (Kd.R_far (p := ⟨gb411, 0, none⟩) (Kd.R_types HO_412006.out BK411.out (by decide)) (fun _ hk => hk.2) (.int .i64 t413)) (fun _ hk => hk.2) (.int .i64 t414)) (fun _ hk => hk.2) (.int .i64 t415)) (fun _ hk => hk.2) (.int .i64 t416)) (fun _ hk => hk.2) (.int .i64 t417)) (fun _ hk => hk.2) (.int .i64 t418)) (fun _ hk => hk.2) (.slice Ao24 t419.length co24)) (fun _ h_ => h_.1))))) (Kd.R_lt (by (with_reducible repeat (first | apply Kd.R_alloc | apply Kd.R_drewN | apply Kd.R_drew)); exact (Kd.R_mono (Kd.R_far (p := ⟨gb411, 6, none⟩) (Kd.R_far (p := ⟨gb411, 5, none⟩) (Kd.R_far (p := ⟨gb411, 4, none⟩) (Kd.R_far (p := ⟨gb411, 3, none⟩) (Kd.R_far (p := ⟨gb411, 2, none⟩) (Kd.R_far (p := ⟨gb411, 1, none⟩) (Kd.R_far (p := ⟨gb411, 0, none⟩) (Kd.R_types HO421.out BK411.out (by decide)) (fun _ hk => hk.2) (.int .i64 t413)) (fun _ hk => hk.2) (.int .i64 t414)) (fun _ hk => hk.2) (.int .i64 t415)) (fun _ hk => hk.2) (.int .i64 t416)) (fun _ hk => hk.2) (.int .i64 t417)) (fun _ hk => hk.2) (.int .i64 t418)) (fun _ hk => hk.2) (.slice Ao24 t419.length co24)) (fun _ h_ => h_.1))))) (below_size (by repeat (first | (with_reducible first | exact HB.out | apply below_alloc | apply pw_below_drewN | apply below_drew1 | refine below_set ?_ GE411.out) | exact HB.out)))); have n3_ := Aside0.mk (blk_below (g := gb411) (o := .cells #[.int .i64 t413, .int .i64 t414, .int .i64 t415, .int .i64 t416, .int .i64 t417, .int .i64 t418, .slice Ao24 t419.length co24] 26 (0, 0)) (by (with_reducible repeat (first | refine blk_drewN ?_ _ | refine blk_drew ?_ | refine blk_alloc ?_ _)); refine blk_put (cs := #[.int .i64 t413, .int .i64 t414, .int .i64 t415, .int .i64 t416, .int .i64 t417, .int .i64 t418, .slice Ao7 t406.length co7]) ?_ 6 _ rfl; (with_reducible repeat (first | refine blk_drewN ?_ _ | refine blk_drew ?_ | refine blk_alloc ?_ _)); refine blk_put (cs := #[.int .i64 t413, .int .i64 t414, .int .i64 t415, .int .i64 t416, .int .i64 t417, .int .i64 t405, .slice Ao7 t406.length co7]) ?_ 5 _ rfl; (with_reducible repeat (first | refine blk_drewN ?_ _ | refine blk_drew ?_ | refine blk_alloc ?_ _)); refine blk_put (cs := #[.int .i64 t413, .int .i64 t414, .int .i64 t415, .int .i64 t416, .int .i64 t404, .int .i64 t405, .slice Ao7 t406.length co7]) ?_ 4 _ rfl; (with_reducible repeat (first | refine blk_drewN ?_ _ | refine blk_drew ?_ | refine blk_alloc ?_ _)); refine blk_put (cs := #[.int .i64 t413, .int .i64 t414, .int .i64 t415, .int .i64 t403, .int .i64 t404, .int .i64 t405, .slice Ao7 t406.length co7]) ?_ 3 _ rfl; (with_reducible repeat (first | refine blk_drewN ?_ _ | refine blk_drew ?_ | refine blk_alloc ?_ _)); refine blk_put (cs := #[.int .i64 t413, .int .i64 t414, .int .i64 t402, .int .i64 t403, .int .i64 t404, .int .i64 t405, .slice Ao7 t406.length co7]) ?_ 2 _ rfl; (with_reducible repeat (first | refine blk_drewN ?_ _ | refine blk_drew ?_ | refine blk_alloc ?_ _)); refine blk_put (cs := #[.int .i64 t413, .int .i64 t401, .int .i64 t402, .int .i64 t403, .int .i64 t404, .int .i64 t405, .slice Ao7 t406.length co7]) ?_ 1 _ rfl; (with_reducible repeat (first | refine blk_drewN ?_ _ | refine blk_drew ?_ | refine blk_alloc ?_ _)); refine blk_put (cs := #[.int .i64 t400, .int .i64 t401, .int .i64 t402, .int .i64 t403, .int .i64 t404, .int .i64 t405, .slice Ao7 t406.length co7]) ?_ 0 _ rfl; (with_reducible repeat (first | refine blk_drewN ?_ _ | refine blk_drew ?_ | refine blk_alloc ?_ _)); exact BK411.out) hb); have n4_ := Aside0.mk (below_step (by repeat (first | (with_reducible first | exact HB.out | apply below_alloc | apply pw_below_drewN | apply below_drew1 | refine below_set ?_ GE411.out) | exact HB.out)) hb); clear HO_412006; clear HO421; clear BK411; clear HB; have HO_412006 := n0_; have HO421 := n1_; have HO432 := n2_; have BK411 := n3_; have HB := n4_; clear n0_ n1_ n2_ n3_ n4_; (try clear hb); (try clear hb2); (try clear hk); (try clear hi); (try clear ho0)) | ((with_reducible refine gate_dst (N := 6) rfl ?_); (try (refine gate_guard (by rfl) ?_; dsimp only)); refine box_event ?hg (N := 6) ?hd (cs := #[.int .i64 0, .int .i64 0, .int .i64 0, .int .i64 0, .int .i64 0, .int .i64 0, .slice none 0 0]) (t := 26) ?hr ?_; (case hd => rfl); (case hg => rfl); (case hr => first | (go_simp; done) | (go_simp; rfl)); intro gb435 hg w26 hbox hb; have n0_ := Aside0.mk (Kd.R_below (by (with_reducible repeat (first | apply Kd.R_alloc | apply Kd.R_drewN | apply Kd.R_drew)); exact HO_412006.out) hb); have n1_ := Aside0.mk (Kd.R_below (by (with_reducible repeat (first | apply Kd.R_alloc | apply Kd.R_drewN | apply Kd.R_drew)); exact HO421.out) hb); have n2_ := Aside0.mk (Kd.R_below (by (with_reducible repeat (first | apply Kd.R_alloc | apply Kd.R_drewN | apply Kd.R_drew)); exact HO432.out) hb); have n3_ := Aside0.mk (blk_below (g := gb411) (o := .cells #[.int .i64 t413, .int .i64 t414, .int .i64 t415, .int .i64 t416, .int .i64 t417, .int .i64 t418, .slice Ao24 t419.length co24] 26 (0, 0)) (by (with_reducible repeat (first | refine blk_drewN ?_ _ | refine blk_drew ?_ | refine blk_alloc ?_ _)); exact BK411.out) hb); have n4_ := Aside0.mk (below_step (by repeat (first | (with_reducible first | exact HB.out | apply below_alloc | apply pw_below_drewN | apply below_drew1 | refine below_set ?_ GE411.out) | exact HB.out)) hb); have n5_ := Aside0.mk (hbox); have n6_ := Aside0.mk ((by rw [hg]; exact (below_size (by repeat (first | (with_reducible first | exact HB.out | apply below_alloc | apply pw_below_drewN | apply below_drew1 | refine below_set ?_ GE411.out) | exact HB.out))) : w.heap.size ≤ gb435)); have n7_ := Aside0.mk ((by rw [hg]; exact (below_size (by repeat (first | (with_reducible first | exact HB.out | apply below_alloc | apply pw_below_drewN | apply below_drew1 | refine below_set ?_ GE411.out) | exact HB.out))) : w.heap.size ≤ gb435)); have n8_ := Aside0.mk ((by rw [hg]; exact Nat.ne_of_lt (blk_lt (g := gb411) (o := .cells #[.int .i64 t413, .int .i64 t414, .int .i64 t415, .int .i64 t416, .int .i64 t417, .int .i64 t418, .slice Ao24 t419.length co24] 26 (0, 0)) (by (with_reducible repeat (first | refine blk_drewN ?_ _ | refine blk_drew ?_ | refine blk_alloc ?_ _)); exact BK411.out)) : gb411 ≠ gb435)); have n9_ := Aside0.mk ((by rw [hg]; exact Nat.ne_of_gt (blk_lt (g := gb411) (o := .cells #[.int .i64 t413, .int .i64 t414, .int .i64 t415, .int .i64 t416, .int .i64 t417, .int .i64 t418, .slice Ao24 t419.length co24] 26 (0, 0)) (by (with_reducible repeat (first | refine blk_drewN ?_ _ | refine blk_drew ?_ | refine blk_alloc ?_ _)); exact BK411.out)) : gb435 ≠ gb411)); clear HO_412006; clear HO421; clear HO432; clear BK411; clear HB; have HO_412006 := n0_; have HO421 := n1_; have HO432 := n2_; have BK411 := n3_; have HB := n4_; have BK435 := n5_; have GW435 := n6_; have GE435 := n7_; have NB411_435 := n8_; have NB435_411 := n9_; clear n0_ n1_ n2_ n3_ n4_ n5_ n6_ n7_ n8_ n9_; clear hb hbox hg; have hnb27 := NB435_411.out; have hnc27 := NB411_435.out; have hcz28_0 : w26.cell? ⟨gb435, 0, none⟩ = some (.int .i64 0) := (blk_cell BK435.out 0).trans rfl; have hcz28_1 : w26.cell? ⟨gb435, 1, none⟩ = some (.int .i64 0) := (blk_cell BK435.out 1).trans rfl; have hcz28_2 : w26.cell? ⟨gb435, 2, none⟩ = some (.int .i64 0) := (blk_cell BK435.out 2).trans rfl; have hcz28_3 : w26.cell? ⟨gb435, 3, none⟩ = some (.int .i64 0) := (blk_cell BK435.out 3).trans rfl; have hcz28_4 : w26.cell? ⟨gb435, 4, none⟩ = some (.int .i64 0) := (blk_cell BK435.out 4).trans rfl; have hcz28_5 : w26.cell? ⟨gb435, 5, none⟩ = some (.int .i64 0) := (blk_cell BK435.out 5).trans rfl; have hcz28_6 : w26.cell? ⟨gb435, 6, none⟩ = some (.slice none 0 0) := (blk_cell BK435.out 6).trans rfl; have hfz28_0 := blk_frozen BK435.out 0; have hfz28_1 := blk_frozen BK435.out 1; have hfz28_2 := blk_frozen BK435.out 2; have hfz28_3 := blk_frozen BK435.out 3; have hfz28_4 := blk_frozen BK435.out 4; have hfz28_5 := blk_frozen BK435.out 5; have hfz28_6 := blk_frozen BK435.out 6; obtain ⟨Ao29, co29, eo29⟩ := Kd.R_slice HO432.out; subst eo29; have hcz30_0 : w26.cell? ⟨gb411, 0, none⟩ = some (.int .i64 t413) := (blk_cell BK411.out 0).trans rfl; have hcz30_1 : w26.cell? ⟨gb411, 1, none⟩ = some (.int .i64 t414) := (blk_cell BK411.out 1).trans rfl; have hcz30_2 : w26.cell? ⟨gb411, 2, none⟩ = some (.int .i64 t415) := (blk_cell BK411.out 2).trans rfl; have hcz30_3 : w26.cell? ⟨gb411, 3, none⟩ = some (.int .i64 t416) := (blk_cell BK411.out 3).trans rfl; have hcz30_4 : w26.cell? ⟨gb411, 4, none⟩ = some (.int .i64 t417) := (blk_cell BK411.out 4).trans rfl; have hcz30_5 : w26.cell? ⟨gb411, 5, none⟩ = some (.int .i64 t418) := (blk_cell BK411.out 5).trans rfl; have hcz30_6 : w26.cell? ⟨gb411, 6, none⟩ = some (.slice Ao24 t419.length co24) := (blk_cell BK411.out 6).trans rfl; have hfz30_0 := blk_frozen BK411.out 0; have hfz30_1 := blk_frozen BK411.out 1; have hfz30_2 := blk_frozen BK411.out 2; have hfz30_3 := blk_frozen BK411.out 3; have hfz30_4 := blk_frozen BK411.out 4; have hfz30_5 := blk_frozen BK411.out 5; have hfz30_6 := blk_frozen BK411.out 6) | (go_at_call 25; (with_reducible refine (barrowref24_Equal.calls kj2 t413 t414 t415 t416 t417 t418 _ _ t419 t424 t425 t426 t427 t428 t429 _ _ t430 t436 _ ?side1 ?side2 ?side3 ?side4 A21.out).mono ?_); (case side1 => refine (Kd.R_reads' (e := 29) (base := w.heap.size) (ok := fun k_ => ((True ∧ some k_ ≠ (.slice Ao7 t406.length co7 : Value).ownBlock) ∧ some k_ ≠ (.slice Ao29 t430.length co29 : Value).ownBlock)) (n := t419.length) (c := co24) ?_).2.2; exact (by (with_reducible repeat (first | apply Kd.R_alloc | apply Kd.R_drewN | apply Kd.R_drew)); exact (Kd.R_mono (Kd.R_far (p := ⟨gb435, 6, none⟩) (Kd.R_far (p := ⟨gb435, 5, none⟩) (Kd.R_far (p := ⟨gb435, 4, none⟩) (Kd.R_far (p := ⟨gb435, 3, none⟩) (Kd.R_far (p := ⟨gb435, 2, none⟩) (Kd.R_far (p := ⟨gb435, 1, none⟩) (Kd.R_far (p := ⟨gb435, 0, none⟩) (Kd.R_types HO421.out BK435.out (by decide)) (fun _ hk => hk.2) (.int .i64 t424)) (fun _ hk => hk.2) (.int .i64 t425)) (fun _ hk => hk.2) (.int .i64 t426)) (fun _ hk => hk.2) (.int .i64 t427)) (fun _ hk => hk.2) (.int .i64 t428)) (fun _ hk => hk.2) (.int .i64 t429)) (fun _ hk => hk.2) (.slice Ao29 t430.length co29)) (fun _ h_ => h_.1)))); (case side2 => exact (Kd.R_reads' HO421.out).2.1); (case side3 => refine (Kd.R_reads' (e := 29) (base := w.heap.size) (ok := fun k_ => ((True ∧ some k_ ≠ (.slice Ao7 t406.length co7 : Value).ownBlock) ∧ some k_ ≠ (.slice Ao24 t419.length co24 : Value).ownBlock)) (n := t430.length) (c := co29) ?_).2.2; exact (by (with_reducible repeat (first | apply Kd.R_alloc | apply Kd.R_drewN | apply Kd.R_drew)); exact (Kd.R_mono (Kd.R_far (p := ⟨gb435, 6, none⟩) (Kd.R_far (p := ⟨gb435, 5, none⟩) (Kd.R_far (p := ⟨gb435, 4, none⟩) (Kd.R_far (p := ⟨gb435, 3, none⟩) (Kd.R_far (p := ⟨gb435, 2, none⟩) (Kd.R_far (p := ⟨gb435, 1, none⟩) (Kd.R_far (p := ⟨gb435, 0, none⟩) (Kd.R_types HO432.out BK435.out (by decide)) (fun _ hk => hk.2) (.int .i64 t424)) (fun _ hk => hk.2) (.int .i64 t425)) (fun _ hk => hk.2) (.int .i64 t426)) (fun _ hk => hk.2) (.int .i64 t427)) (fun _ hk => hk.2) (.int .i64 t428)) (fun _ hk => hk.2) (.int .i64 t429)) (fun _ hk => hk.2) (.slice Ao29 t430.length co29)) (fun _ h_ => h_.1)))); (case side4 => exact (Kd.R_reads' HO432.out).2.1); rintro e w31 ⟨rfl, hb⟩; have n0_ := Aside0.mk (Kd.R_below (by (with_reducible repeat (first | apply Kd.R_alloc | apply Kd.R_drewN | apply Kd.R_drew)); exact (Kd.R_mono (Kd.R_far (p := ⟨gb435, 6, none⟩) (Kd.R_far (p := ⟨gb435, 5, none⟩) (Kd.R_far (p := ⟨gb435, 4, none⟩) (Kd.R_far (p := ⟨gb435, 3, none⟩) (Kd.R_far (p := ⟨gb435, 2, none⟩) (Kd.R_far (p := ⟨gb435, 1, none⟩) (Kd.R_far (p := ⟨gb435, 0, none⟩) (Kd.R_types HO_412006.out BK435.out (by decide)) (fun _ hk => hk.2) (.int .i64 t424)) (fun _ hk => hk.2) (.int .i64 t425)) (fun _ hk => hk.2) (.int .i64 t426)) (fun _ hk => hk.2) (.int .i64 t427)) (fun _ hk => hk.2) (.int .i64 t428)) (fun _ hk => hk.2) (.int .i64 t429)) (fun _ hk => hk.2) (.slice Ao29 t430.length co29)) (fun _ h_ => h_.1))) hb); have n1_ := Aside0.mk (Kd.R_below (by (with_reducible repeat (first | apply Kd.R_alloc | apply Kd.R_drewN | apply Kd.R_drew)); exact (Kd.R_mono (Kd.R_far (p := ⟨gb435, 6, none⟩) (Kd.R_far (p := ⟨gb435, 5, none⟩) (Kd.R_far (p := ⟨gb435, 4, none⟩) (Kd.R_far (p := ⟨gb435, 3, none⟩) (Kd.R_far (p := ⟨gb435, 2, none⟩) (Kd.R_far (p := ⟨gb435, 1, none⟩) (Kd.R_far (p := ⟨gb435, 0, none⟩) (Kd.R_types HO421.out BK435.out (by decide)) (fun _ hk => hk.2) (.int .i64 t424)) (fun _ hk => hk.2) (.int .i64 t425)) (fun _ hk => hk.2) (.int .i64 t426)) (fun _ hk => hk.2) (.int .i64 t427)) (fun _ hk => hk.2) (.int .i64 t428)) (fun _ hk => hk.2) (.int .i64 t429)) (fun _ hk => hk.2) (.slice Ao29 t430.length co29)) (fun _ h_ => h_.1))) hb); have n2_ := Aside0.mk (Kd.R_below (by (with_reducible repeat (first | apply Kd.R_alloc | apply Kd.R_drewN | apply Kd.R_drew)); exact (Kd.R_mono (Kd.R_far (p := ⟨gb435, 6, none⟩) (Kd.R_far (p := ⟨gb435, 5, none⟩) (Kd.R_far (p := ⟨gb435, 4, none⟩) (Kd.R_far (p := ⟨gb435, 3, none⟩) (Kd.R_far (p := ⟨gb435, 2, none⟩) (Kd.R_far (p := ⟨gb435, 1, none⟩) (Kd.R_far (p := ⟨gb435, 0, none⟩) (Kd.R_types HO432.out BK435.out (by decide)) (fun _ hk => hk.2) (.int .i64 t424)) (fun _ hk => hk.2) (.int .i64 t425)) (fun _ hk => hk.2) (.int .i64 t426)) (fun _ hk => hk.2) (.int .i64 t427)) (fun _ hk => hk.2) (.int .i64 t428)) (fun _ hk => hk.2) (.int .i64 t429)) (fun _ hk => hk.2) (.slice Ao29 t430.length co29)) (fun _ h_ => h_.1))) hb); have n3_ := Aside0.mk (blk_below (g := gb411) (o := .cells #[.int .i64 t413, .int .i64 t414, .int .i64 t415, .int .i64 t416, .int .i64 t417, .int .i64 t418, .slice Ao24 t419.length co24] 26 (0, 0)) (by (with_reducible repeat (first | refine blk_drewN ?_ _ | refine blk_drew ?_ | refine blk_alloc ?_ _)); refine blk_far ?_ NB411_435.out _; (with_reducible repeat (first | refine blk_drewN ?_ _ | refine blk_drew ?_ | refine blk_alloc ?_ _)); refine blk_far ?_ NB411_435.out _; (with_reducible repeat (first | refine blk_drewN ?_ _ | refine blk_drew ?_ | refine blk_alloc ?_ _)); refine blk_far ?_ NB411_435.out _; (with_reducible repeat (first | refine blk_drewN ?_ _ | refine blk_drew ?_ | refine blk_alloc ?_ _)); refine blk_far ?_ NB411_435.out _; (with_reducible repeat (first | refine blk_drewN ?_ _ | refine blk_drew ?_ | refine blk_alloc ?_ _)); refine blk_far ?_ NB411_435.out _; (with_reducible repeat (first | refine blk_drewN ?_ _ | refine blk_drew ?_ | refine blk_alloc ?_ _)); refine blk_far ?_ NB411_435.out _; (with_reducible repeat (first | refine blk_drewN ?_ _ | refine blk_drew ?_ | refine blk_alloc ?_ _)); refine blk_far ?_ NB411_435.out _; (with_reducible repeat (first | refine blk_drewN ?_ _ | refine blk_drew ?_ | refine blk_alloc ?_ _)); exact BK411.out) hb); have n4_ := Aside0.mk (blk_below (g := gb435) (o := .cells #[.int .i64 t424, .int .i64 t425, .int .i64 t426, .int .i64 t427, .int .i64 t428, .int .i64 t429, .slice Ao29 t430.length co29] 26 (0, 0)) (by (with_reducible repeat (first | refine blk_drewN ?_ _ | refine blk_drew ?_ | refine blk_alloc ?_ _)); refine blk_put (cs := #[.int .i64 t424, .int .i64 t425, .int .i64 t426, .int .i64 t427, .int .i64 t428, .int .i64 t429, .slice none 0 0]) ?_ 6 _ rfl; (with_reducible repeat (first | refine blk_drewN ?_ _ | refine blk_drew ?_ | refine blk_alloc ?_ _)); refine blk_put (cs := #[.int .i64 t424, .int .i64 t425, .int .i64 t426, .int .i64 t427, .int .i64 t428, .int .i64 0, .slice none 0 0]) ?_ 5 _ rfl; (with_reducible repeat (first | refine blk_drewN ?_ _ | refine blk_drew ?_ | refine blk_alloc ?_ _)); refine blk_put (cs := #[.int .i64 t424, .int .i64 t425, .int .i64 t426, .int .i64 t427, .int .i64 0, .int .i64 0, .slice none 0 0]) ?_ 4 _ rfl; (with_reducible repeat (first | refine blk_drewN ?_ _ | refine blk_drew ?_ | refine blk_alloc ?_ _)); refine blk_put (cs := #[.int .i64 t424, .int .i64 t425, .int .i64 t426, .int .i64 0, .int .i64 0, .int .i64 0, .slice none 0 0]) ?_ 3 _ rfl; (with_reducible repeat (first | refine blk_drewN ?_ _ | refine blk_drew ?_ | refine blk_alloc ?_ _)); refine blk_put (cs := #[.int .i64 t424, .int .i64 t425, .int .i64 0, .int .i64 0, .int .i64 0, .int .i64 0, .slice none 0 0]) ?_ 2 _ rfl; (with_reducible repeat (first | refine blk_drewN ?_ _ | refine blk_drew ?_ | refine blk_alloc ?_ _)); refine blk_put (cs := #[.int .i64 t424, .int .i64 0, .int .i64 0, .int .i64 0, .int .i64 0, .int .i64 0, .slice none 0 0]) ?_ 1 _ rfl; (with_reducible repeat (first | refine blk_drewN ?_ _ | refine blk_drew ?_ | refine blk_alloc ?_ _)); refine blk_put (cs := #[.int .i64 0, .int .i64 0, .int .i64 0, .int .i64 0, .int .i64 0, .int .i64 0, .slice none 0 0]) ?_ 0 _ rfl; (with_reducible repeat (first | refine blk_drewN ?_ _ | refine blk_drew ?_ | refine blk_alloc ?_ _)); exact BK435.out) hb); have n5_ := Aside0.mk (below_step (by repeat (first | (with_reducible first | exact HB.out | apply below_alloc | apply pw_below_drewN | apply below_drew1 | refine below_set ?_ GE411.out | refine below_set ?_ GE435.out) | exact HB.out)) hb); clear HO_412006; clear HO421; clear HO432; clear BK411; clear BK435; clear HB; have HO_412006 := n0_; have HO421 := n1_; have HO432 := n2_; have BK411 := n3_; have BK435 := n4_; have HB := n5_; clear n0_ n1_ n2_ n3_ n4_ n5_; (try clear hb); (try clear hb2); (try clear hk); (try clear hi)))
      go_ret
      exact ⟨by first | rfl | (simp [errW_none, errW_some] <;> rfl) | (simp [*, errW_none, errW_some] <;> rfl), by repeat (first | (with_reducible first | exact HB.out | apply below_alloc | apply pw_below_drewN | apply below_drew1 | refine below_set ?_ GE411.out | refine below_set ?_ GE435.out) | exact HB.out)⟩
     ·rw [if_neg c20] at H
      have c20b0 : (t422 == t433) = false := beq_eq_false_iff_ne.mpr c20
      have c20b1 : (t422 != t433) = true := bne_iff_ne.mpr c20
      obtain rfl := Option.some.inj H
      go_wp2_with (first | ((with_reducible refine gate_callee (f := 23) rfl ?_); refine goesL_ (some 42) rfl rfl Tryd.func23 (by kernel_rfl) rfl #[.string a0] rfl (by (try simp only [List.map_toArray, List.map_cons, List.map_nil]); first | done | rfl | (simp only [List.length_drop, List.length_take]; rfl)) ?_; (with_reducible refine (script_Parse.calls kj2 a0 t413 t414 t415 t416 t417 t418 t419 t422 t423 _ ?tab1_ ?tab2_ ?tab3_ A17.out).mono ?_); (case tab1_ => exact tab_keep hTab (by repeat (first | (with_reducible first | exact HB.out | apply below_alloc | apply pw_below_drewN | apply below_drew1) | (with_reducible refine below_set ?_ GE411.out) | (with_reducible refine below_set ?_ GE435.out) | exact HB.out))); (case tab2_ => exact tabE_keep hTabE (by repeat (first | (with_reducible first | exact HB.out | apply below_alloc | apply pw_below_drewN | apply below_drew1) | (with_reducible refine below_set ?_ GE411.out) | (with_reducible refine below_set ?_ GE435.out) | exact HB.out))); (case tab3_ => exact tabM_keep hTabM (by repeat (first | (with_reducible first | exact HB.out | apply below_alloc | apply pw_below_drewN | apply below_drew1) | (with_reducible refine below_set ?_ GE411.out) | (with_reducible refine below_set ?_ GE435.out) | exact HB.out))); rintro e w32 ⟨v420, rfl, ho0, hb⟩; refine ⟨_, rfl, ?_⟩; have n0_ := Aside0.mk (Kd.R_elder' (by (with_reducible repeat (first | apply Kd.R_alloc | apply Kd.R_drewN | apply Kd.R_drew)); exact HO_412006.out) (Kd.R_base ho0) hb); have n1_ := Aside0.mk (Kd.R_lower (Kd.R_new' ho0 (Kd.R_lt (by (with_reducible repeat (first | apply Kd.R_alloc | apply Kd.R_drewN | apply Kd.R_drew)); exact HO_412006.out))) (below_size (by repeat (first | (with_reducible first | exact HB.out | apply below_alloc | apply pw_below_drewN | apply below_drew1 | refine below_set ?_ GE411.out) | exact HB.out)))); have n2_ := Aside0.mk (blk_below (g := gb411) (o := .cells #[.int .i64 t400, .int .i64 t401, .int .i64 t402, .int .i64 t403, .int .i64 t404, .int .i64 t405, .slice Ao7 t406.length co7] 26 (0, 0)) (by (with_reducible repeat (first | refine blk_drewN ?_ _ | refine blk_drew ?_ | refine blk_alloc ?_ _)); exact BK411.out) hb); have n3_ := Aside0.mk (below_step (by repeat (first | (with_reducible first | exact HB.out | apply below_alloc | apply pw_below_drewN | apply below_drew1 | refine below_set ?_ GE411.out) | exact HB.out)) hb); clear HO_412006; clear BK411; clear HB; have HO_412006 := n0_; have HO421 := n1_; have BK411 := n2_; have HB := n3_; clear n0_ n1_ n2_ n3_; (try clear hb); (try clear hb2); (try clear hk); (try clear hi); (try clear ho0); have hcz33_0 : w32.cell? ⟨gb411, 0, none⟩ = some (.int .i64 t400) := (blk_cell BK411.out 0).trans rfl; have hcz33_1 : w32.cell? ⟨gb411, 1, none⟩ = some (.int .i64 t401) := (blk_cell BK411.out 1).trans rfl; have hcz33_2 : w32.cell? ⟨gb411, 2, none⟩ = some (.int .i64 t402) := (blk_cell BK411.out 2).trans rfl; have hcz33_3 : w32.cell? ⟨gb411, 3, none⟩ = some (.int .i64 t403) := (blk_cell BK411.out 3).trans rfl; have hcz33_4 : w32.cell? ⟨gb411, 4, none⟩ = some (.int .i64 t404) := (blk_cell BK411.out 4).trans rfl; have hcz33_5 : w32.cell? ⟨gb411, 5, none⟩ = some (.int .i64 t405) := (blk_cell BK411.out 5).trans rfl; have hcz33_6 : w32.cell? ⟨gb411, 6, none⟩ = some (.slice Ao7 t406.length co7) := (blk_cell BK411.out 6).trans rfl; have hfz33_0 := blk_frozen BK411.out 0; have hfz33_1 := blk_frozen BK411.out 1; have hfz33_2 := blk_frozen BK411.out 2; have hfz33_3 := blk_frozen BK411.out 3; have hfz33_4 := blk_frozen BK411.out 4; have hfz33_5 := blk_frozen BK411.out 5; have hfz33_6 := blk_frozen BK411.out 6; obtain ⟨Ao34, co34, eo34⟩ := Kd.R_slice HO421.out; subst eo34) | ((with_reducible refine gate_callee (f := 24) rfl ?_); refine goesL_ (some 48) rfl rfl Tryd.func24 (by kernel_rfl) rfl #[.string a0] rfl (by (try simp only [List.map_toArray, List.map_cons, List.map_nil]); first | done | rfl | (simp only [List.length_drop, List.length_take]; rfl)) ?_; (with_reducible refine (barrowref24_Parse.calls kj2 a0 t424 t425 t426 t427 t428 t429 t430 t433 t434 _ A18.out).mono ?_); rintro e w35 ⟨v431, rfl, ho0, hb⟩; refine ⟨_, rfl, ?_⟩; have n0_ := Aside0.mk (Kd.R_elder' (by (with_reducible repeat (first | apply Kd.R_alloc | apply Kd.R_drewN | apply Kd.R_drew)); exact (Kd.R_mono (Kd.R_far (p := ⟨gb411, 6, none⟩) (Kd.R_far (p := ⟨gb411, 5, none⟩) (Kd.R_far (p := ⟨gb411, 4, none⟩) (Kd.R_far (p := ⟨gb411, 3, none⟩) (Kd.R_far (p := ⟨gb411, 2, none⟩) (Kd.R_far (p := ⟨gb411, 1, none⟩) (Kd.R_far (p := ⟨gb411, 0, none⟩) (Kd.R_types HO_412006.out BK411.out (by decide)) (fun _ hk => hk.2) (.int .i64 t413)) (fun _ hk => hk.2) (.int .i64 t414)) (fun _ hk => hk.2) (.int .i64 t415)) (fun _ hk => hk.2) (.int .i64 t416)) (fun _ hk => hk.2) (.int .i64 t417)) (fun _ hk => hk.2) (.int .i64 t418)) (fun _ hk => hk.2) (.slice Ao34 t419.length co34)) (fun _ h_ => h_.1))) (Kd.R_base ho0) hb); have n1_ := Aside0.mk (Kd.R_elder' (by (with_reducible repeat (first | apply Kd.R_alloc | apply Kd.R_drewN | apply Kd.R_drew)); exact (Kd.R_mono (Kd.R_far (p := ⟨gb411, 6, none⟩) (Kd.R_far (p := ⟨gb411, 5, none⟩) (Kd.R_far (p := ⟨gb411, 4, none⟩) (Kd.R_far (p := ⟨gb411, 3, none⟩) (Kd.R_far (p := ⟨gb411, 2, none⟩) (Kd.R_far (p := ⟨gb411, 1, none⟩) (Kd.R_far (p := ⟨gb411, 0, none⟩) (Kd.R_types HO421.out BK411.out (by decide)) (fun _ hk => hk.2) (.int .i64 t413)) (fun _ hk => hk.2) (.int .i64 t414)) (fun _ hk => hk.2) (.int .i64 t415)) (fun _ hk => hk.2) (.int .i64 t416)) (fun _ hk => hk.2) (.int .i64 t417)) (fun _ hk => hk.2) (.int .i64 t418)) (fun _ hk => hk.2) (.slice Ao34 t419.length co34)) (fun _ h_ => h_.1))) (Kd.R_base ho0) hb); have n2_ := Aside0.mk (Kd.R_lower (Kd.R_new' (Kd.R_new' ho0 (Kd.R_lt (by (with_reducible repeat (first | apply Kd.R_alloc | apply Kd.R_drewN | apply Kd.R_drew)); exact (Kd.R_mono (Kd.R_far (p := ⟨gb411, 6, none⟩) (Kd.R_far (p := ⟨gb411, 5, none⟩) (Kd.R_far (p := ⟨gb411, 4, none⟩) (Kd.R_far (p := ⟨gb411, 3, none⟩) (Kd.R_far (p := ⟨gb411, 2, none⟩) (Kd.R_far (p := ⟨gb411, 1, none⟩) (Kd.R_far (p := ⟨gb411, 0, none⟩) (Kd.R_types HO_412006.out BK411.out (by decide)) (fun _ hk => hk.2) (.int .i64 t413)) (fun _ hk => hk.2) (.int .i64 t414)) (fun _ hk => hk.2) (.int .i64 t415)) (fun _ hk => hk.2) (.int .i64 t416)) (fun _ hk => hk.2) (.int .i64 t417)) (fun _ hk => hk.2) (.int .i64 t418)) (fun _ hk => hk.2) (.slice Ao34 t419.length co34)) (fun _ h_ => h_.1))))) (Kd.R_lt (by (with_reducible repeat (first | apply Kd.R_alloc | apply Kd.R_drewN | apply Kd.R_drew)); exact (Kd.R_mono (Kd.R_far (p := ⟨gb411, 6, none⟩) (Kd.R_far (p := ⟨gb411, 5, none⟩) (Kd.R_far (p := ⟨gb411, 4, none⟩) (Kd.R_far (p := ⟨gb411, 3, none⟩) (Kd.R_far (p := ⟨gb411, 2, none⟩) (Kd.R_far (p := ⟨gb411, 1, none⟩) (Kd.R_far (p := ⟨gb411, 0, none⟩) (Kd.R_types HO421.out BK411.out (by decide)) (fun _ hk => hk.2) (.int .i64 t413)) (fun _ hk => hk.2) (.int .i64 t414)) (fun _ hk => hk.2) (.int .i64 t415)) (fun _ hk => hk.2) (.int .i64 t416)) (fun _ hk => hk.2) (.int .i64 t417)) (fun _ hk => hk.2) (.int .i64 t418)) (fun _ hk => hk.2) (.slice Ao34 t419.length co34)) (fun _ h_ => h_.1))))) (below_size (by repeat (first | (with_reducible first | exact HB.out | apply below_alloc | apply pw_below_drewN | apply below_drew1 | refine below_set ?_ GE411.out) | exact HB.out)))); have n3_ := Aside0.mk (blk_below (g := gb411) (o := .cells #[.int .i64 t413, .int .i64 t414, .int .i64 t415, .int .i64 t416, .int .i64 t417, .int .i64 t418, .slice Ao34 t419.length co34] 26 (0, 0)) (by (with_reducible repeat (first | refine blk_drewN ?_ _ | refine blk_drew ?_ | refine blk_alloc ?_ _)); refine blk_put (cs := #[.int .i64 t413, .int .i64 t414, .int .i64 t415, .int .i64 t416, .int .i64 t417, .int .i64 t418, .slice Ao7 t406.length co7]) ?_ 6 _ rfl; (with_reducible repeat (first | refine blk_drewN ?_ _ | refine blk_drew ?_ | refine blk_alloc ?_ _)); refine blk_put (cs := #[.int .i64 t413, .int .i64 t414, .int .i64 t415, .int .i64 t416, .int .i64 t417, .int .i64 t405, .slice Ao7 t406.length co7]) ?_ 5 _ rfl; (with_reducible repeat (first | refine blk_drewN ?_ _ | refine blk_drew ?_ | refine blk_alloc ?_ _)); refine blk_put (cs := #[.int .i64 t413, .int .i64 t414, .int .i64 t415, .int .i64 t416, .int .i64 t404, .int .i64 t405, .slice Ao7 t406.length co7]) ?_ 4 _ rfl; (with_reducible repeat (first | refine blk_drewN ?_ _ | refine blk_drew ?_ | refine blk_alloc ?_ _)); refine blk_put (cs := #[.int .i64 t413, .int .i64 t414, .int .i64 t415, .int .i64 t403, .int .i64 t404, .int .i64 t405, .slice Ao7 t406.length co7]) ?_ 3 _ rfl; (with_reducible repeat (first | refine blk_drewN ?_ _ | refine blk_drew ?_ | refine blk_alloc ?_ _)); refine blk_put (cs := #[.int .i64 t413, .int .i64 t414, .int .i64 t402, .int .i64 t403, .int .i64 t404, .int .i64 t405, .slice Ao7 t406.length co7]) ?_ 2 _ rfl; (with_reducible repeat (first | refine blk_drewN ?_ _ | refine blk_drew ?_ | refine blk_alloc ?_ _)); refine blk_put (cs := #[.int .i64 t413, .int .i64 t401, .int .i64 t402, .int .i64 t403, .int .i64 t404, .int .i64 t405, .slice Ao7 t406.length co7]) ?_ 1 _ rfl; (with_reducible repeat (first | refine blk_drewN ?_ _ | refine blk_drew ?_ | refine blk_alloc ?_ _)); refine blk_put (cs := #[.int .i64 t400, .int .i64 t401, .int .i64 t402, .int .i64 t403, .int .i64 t404, .int .i64 t405, .slice Ao7 t406.length co7]) ?_ 0 _ rfl; (with_reducible repeat (first | refine blk_drewN ?_ _ | refine blk_drew ?_ | refine blk_alloc ?_ _)); exact BK411.out) hb); have n4_ := Aside0.mk (below_step (by repeat (first | (with_reducible first | exact HB.out | apply below_alloc | apply pw_below_drewN | apply below_drew1 | refine below_set ?_ GE411.out) | exact HB.out)) hb); clear HO_412006; clear HO421; clear BK411; clear HB; have HO_412006 := n0_; have HO421 := n1_; have HO432 := n2_; have BK411 := n3_; have HB := n4_; clear n0_ n1_ n2_ n3_ n4_; (try clear hb); (try clear hb2); (try clear hk); (try clear hi); (try clear ho0)) | ((with_reducible refine gate_dst (N := 6) rfl ?_); (try (refine gate_guard (by rfl) ?_; dsimp only)); refine box_event ?hg (N := 6) ?hd (cs := #[.int .i64 0, .int .i64 0, .int .i64 0, .int .i64 0, .int .i64 0, .int .i64 0, .slice none 0 0]) (t := 26) ?hr ?_; (case hd => rfl); (case hg => rfl); (case hr => first | (go_simp; done) | (go_simp; rfl)); intro gb435 hg w36 hbox hb; have n0_ := Aside0.mk (Kd.R_below (by (with_reducible repeat (first | apply Kd.R_alloc | apply Kd.R_drewN | apply Kd.R_drew)); exact HO_412006.out) hb); have n1_ := Aside0.mk (Kd.R_below (by (with_reducible repeat (first | apply Kd.R_alloc | apply Kd.R_drewN | apply Kd.R_drew)); exact HO421.out) hb); have n2_ := Aside0.mk (Kd.R_below (by (with_reducible repeat (first | apply Kd.R_alloc | apply Kd.R_drewN | apply Kd.R_drew)); exact HO432.out) hb); have n3_ := Aside0.mk (blk_below (g := gb411) (o := .cells #[.int .i64 t413, .int .i64 t414, .int .i64 t415, .int .i64 t416, .int .i64 t417, .int .i64 t418, .slice Ao34 t419.length co34] 26 (0, 0)) (by (with_reducible repeat (first | refine blk_drewN ?_ _ | refine blk_drew ?_ | refine blk_alloc ?_ _)); exact BK411.out) hb); have n4_ := Aside0.mk (below_step (by repeat (first | (with_reducible first | exact HB.out | apply below_alloc | apply pw_below_drewN | apply below_drew1 | refine below_set ?_ GE411.out) | exact HB.out)) hb); have n5_ := Aside0.mk (hbox); have n6_ := Aside0.mk ((by rw [hg]; exact (below_size (by repeat (first | (with_reducible first | exact HB.out | apply below_alloc | apply pw_below_drewN | apply below_drew1 | refine below_set ?_ GE411.out) | exact HB.out))) : w.heap.size ≤ gb435)); have n7_ := Aside0.mk ((by rw [hg]; exact (below_size (by repeat (first | (with_reducible first | exact HB.out | apply below_alloc | apply pw_below_drewN | apply below_drew1 | refine below_set ?_ GE411.out) | exact HB.out))) : w.heap.size ≤ gb435)); have n8_ := Aside0.mk ((by rw [hg]; exact Nat.ne_of_lt (blk_lt (g := gb411) (o := .cells #[.int .i64 t413, .int .i64 t414, .int .i64 t415, .int .i64 t416, .int .i64 t417, .int .i64 t418, .slice Ao34 t419.length co34] 26 (0, 0)) (by (with_reducible repeat (first | refine blk_drewN ?_ _ | refine blk_drew ?_ | refine blk_alloc ?_ _)); exact BK411.out)) : gb411 ≠ gb435)); have n9_ := Aside0.mk ((by rw [hg]; exact Nat.ne_of_gt (blk_lt (g := gb411) (o := .cells #[.int .i64 t413, .int .i64 t414, .int .i64 t415, .int .i64 t416, .int .i64 t417, .int .i64 t418, .slice Ao34 t419.length co34] 26 (0, 0)) (by (with_reducible repeat (first | refine blk_drewN ?_ _ | refine blk_drew ?_ | refine blk_alloc ?_ _)); exact BK411.out)) : gb435 ≠ gb411)); clear HO_412006; clear HO421; clear HO432; clear BK411; clear HB; have HO_412006 := n0_; have HO421 := n1_; have HO432 := n2_; have BK411 := n3_; have HB := n4_; have BK435 := n5_; have GW435 := n6_; have GE435 := n7_; have NB411_435 := n8_; have NB435_411 := n9_; clear n0_ n1_ n2_ n3_ n4_ n5_ n6_ n7_ n8_ n9_; clear hb hbox hg; have hnb37 := NB435_411.out; have hnc37 := NB411_435.out; have hcz38_0 : w36.cell? ⟨gb435, 0, none⟩ = some (.int .i64 0) := (blk_cell BK435.out 0).trans rfl; have hcz38_1 : w36.cell? ⟨gb435, 1, none⟩ = some (.int .i64 0) := (blk_cell BK435.out 1).trans rfl; have hcz38_2 : w36.cell? ⟨gb435, 2, none⟩ = some (.int .i64 0) := (blk_cell BK435.out 2).trans rfl; have hcz38_3 : w36.cell? ⟨gb435, 3, none⟩ = some (.int .i64 0) := (blk_cell BK435.out 3).trans rfl; have hcz38_4 : w36.cell? ⟨gb435, 4, none⟩ = some (.int .i64 0) := (blk_cell BK435.out 4).trans rfl; have hcz38_5 : w36.cell? ⟨gb435, 5, none⟩ = some (.int .i64 0) := (blk_cell BK435.out 5).trans rfl; have hcz38_6 : w36.cell? ⟨gb435, 6, none⟩ = some (.slice none 0 0) := (blk_cell BK435.out 6).trans rfl; have hfz38_0 := blk_frozen BK435.out 0; have hfz38_1 := blk_frozen BK435.out 1; have hfz38_2 := blk_frozen BK435.out 2; have hfz38_3 := blk_frozen BK435.out 3; have hfz38_4 := blk_frozen BK435.out 4; have hfz38_5 := blk_frozen BK435.out 5; have hfz38_6 := blk_frozen BK435.out 6; obtain ⟨Ao39, co39, eo39⟩ := Kd.R_slice HO432.out; subst eo39))
      go_ret
      exact ⟨by first | rfl | (simp [errW_none, errW_some] <;> rfl) | (simp [*, errW_none, errW_some] <;> rfl), by repeat (first | (with_reducible first | exact HB.out | apply below_alloc | apply pw_below_drewN | apply below_drew1 | refine below_set ?_ GE411.out | refine below_set ?_ GE435.out) | exact HB.out)⟩
    ·rw [if_neg c19] at H
     have c19b0 : (t423 == t434) = false := beq_eq_false_iff_ne.mpr c19
     have c19b1 : (t423 != t434) = true := bne_iff_ne.mpr c19
     obtain rfl := Option.some.inj H
     go_wp2_with (first | ((with_reducible refine gate_callee (f := 23) rfl ?_); refine goesL_ (some 42) rfl rfl Tryd.func23 (by kernel_rfl) rfl #[.string a0] rfl (by (try simp only [List.map_toArray, List.map_cons, List.map_nil]); first | done | rfl | (simp only [List.length_drop, List.length_take]; rfl)) ?_; (with_reducible refine (script_Parse.calls kj2 a0 t413 t414 t415 t416 t417 t418 t419 t422 t423 _ ?tab1_ ?tab2_ ?tab3_ A17.out).mono ?_); (case tab1_ => exact tab_keep hTab (by repeat (first | (with_reducible first | exact HB.out | apply below_alloc | apply pw_below_drewN | apply below_drew1) | (with_reducible refine below_set ?_ GE411.out) | (with_reducible refine below_set ?_ GE435.out) | exact HB.out))); (case tab2_ => exact tabE_keep hTabE (by repeat (first | (with_reducible first | exact HB.out | apply below_alloc | apply pw_below_drewN | apply below_drew1) | (with_reducible refine below_set ?_ GE411.out) | (with_reducible refine below_set ?_ GE435.out) | exact HB.out))); (case tab3_ => exact tabM_keep hTabM (by repeat (first | (with_reducible first | exact HB.out | apply below_alloc | apply pw_below_drewN | apply below_drew1) | (with_reducible refine below_set ?_ GE411.out) | (with_reducible refine below_set ?_ GE435.out) | exact HB.out))); rintro e w40 ⟨v420, rfl, ho0, hb⟩; refine ⟨_, rfl, ?_⟩; have n0_ := Aside0.mk (Kd.R_elder' (by (with_reducible repeat (first | apply Kd.R_alloc | apply Kd.R_drewN | apply Kd.R_drew)); exact HO_412006.out) (Kd.R_base ho0) hb); have n1_ := Aside0.mk (Kd.R_lower (Kd.R_new' ho0 (Kd.R_lt (by (with_reducible repeat (first | apply Kd.R_alloc | apply Kd.R_drewN | apply Kd.R_drew)); exact HO_412006.out))) (below_size (by repeat (first | (with_reducible first | exact HB.out | apply below_alloc | apply pw_below_drewN | apply below_drew1 | refine below_set ?_ GE411.out) | exact HB.out)))); have n2_ := Aside0.mk (blk_below (g := gb411) (o := .cells #[.int .i64 t400, .int .i64 t401, .int .i64 t402, .int .i64 t403, .int .i64 t404, .int .i64 t405, .slice Ao7 t406.length co7] 26 (0, 0)) (by (with_reducible repeat (first | refine blk_drewN ?_ _ | refine blk_drew ?_ | refine blk_alloc ?_ _)); exact BK411.out) hb); have n3_ := Aside0.mk (below_step (by repeat (first | (with_reducible first | exact HB.out | apply below_alloc | apply pw_below_drewN | apply below_drew1 | refine below_set ?_ GE411.out) | exact HB.out)) hb); clear HO_412006; clear BK411; clear HB; have HO_412006 := n0_; have HO421 := n1_; have BK411 := n2_; have HB := n3_; clear n0_ n1_ n2_ n3_; (try clear hb); (try clear hb2); (try clear hk); (try clear hi); (try clear ho0); have hcz41_0 : w40.cell? ⟨gb411, 0, none⟩ = some (.int .i64 t400) := (blk_cell BK411.out 0).trans rfl; have hcz41_1 : w40.cell? ⟨gb411, 1, none⟩ = some (.int .i64 t401) := (blk_cell BK411.out 1).trans rfl; have hcz41_2 : w40.cell? ⟨gb411, 2, none⟩ = some (.int .i64 t402) := (blk_cell BK411.out 2).trans rfl; have hcz41_3 : w40.cell? ⟨gb411, 3, none⟩ = some (.int .i64 t403) := (blk_cell BK411.out 3).trans rfl; have hcz41_4 : w40.cell? ⟨gb411, 4, none⟩ = some (.int .i64 t404) := (blk_cell BK411.out 4).trans rfl; have hcz41_5 : w40.cell? ⟨gb411, 5, none⟩ = some (.int .i64 t405) := (blk_cell BK411.out 5).trans rfl; have hcz41_6 : w40.cell? ⟨gb411, 6, none⟩ = some (.slice Ao7 t406.length co7) := (blk_cell BK411.out 6).trans rfl; have hfz41_0 := blk_frozen BK411.out 0; have hfz41_1 := blk_frozen BK411.out 1; have hfz41_2 := blk_frozen BK411.out 2; have hfz41_3 := blk_frozen BK411.out 3; have hfz41_4 := blk_frozen BK411.out 4; have hfz41_5 := blk_frozen BK411.out 5; have hfz41_6 := blk_frozen BK411.out 6; obtain ⟨Ao42, co42, eo42⟩ := Kd.R_slice HO421.out; subst eo42) | ((with_reducible refine gate_callee (f := 24) rfl ?_); refine goesL_ (some 48) rfl rfl Tryd.func24 (by kernel_rfl) rfl #[.string a0] rfl (by (try simp only [List.map_toArray, List.map_cons, List.map_nil]); first | done | rfl | (simp only [List.length_drop, List.length_take]; rfl)) ?_; (with_reducible refine (barrowref24_Parse.calls kj2 a0 t424 t425 t426 t427 t428 t429 t430 t433 t434 _ A18.out).mono ?_); rintro e w43 ⟨v431, rfl, ho0, hb⟩; refine ⟨_, rfl, ?_⟩; have n0_ := Aside0.mk (Kd.R_elder' (by (with_reducible repeat (first | apply Kd.R_alloc | apply Kd.R_drewN | apply Kd.R_drew)); exact (Kd.R_mono (Kd.R_far (p := ⟨gb411, 6, none⟩) (Kd.R_far (p := ⟨gb411, 5, none⟩) (Kd.R_far (p := ⟨gb411, 4, none⟩) (Kd.R_far (p := ⟨gb411, 3, none⟩) (Kd.R_far (p := ⟨gb411, 2, none⟩) (Kd.R_far (p := ⟨gb411, 1, none⟩) (Kd.R_far (p := ⟨gb411, 0, none⟩) (Kd.R_types HO_412006.out BK411.out (by decide)) (fun _ hk => hk.2) (.int .i64 t413)) (fun _ hk => hk.2) (.int .i64 t414)) (fun _ hk => hk.2) (.int .i64 t415)) (fun _ hk => hk.2) (.int .i64 t416)) (fun _ hk => hk.2) (.int .i64 t417)) (fun _ hk => hk.2) (.int .i64 t418)) (fun _ hk => hk.2) (.slice Ao42 t419.length co42)) (fun _ h_ => h_.1))) (Kd.R_base ho0) hb); have n1_ := Aside0.mk (Kd.R_elder' (by (with_reducible repeat (first | apply Kd.R_alloc | apply Kd.R_drewN | apply Kd.R_drew)); exact (Kd.R_mono (Kd.R_far (p := ⟨gb411, 6, none⟩) (Kd.R_far (p := ⟨gb411, 5, none⟩) (Kd.R_far (p := ⟨gb411, 4, none⟩) (Kd.R_far (p := ⟨gb411, 3, none⟩) (Kd.R_far (p := ⟨gb411, 2, none⟩) (Kd.R_far (p := ⟨gb411, 1, none⟩) (Kd.R_far (p := ⟨gb411, 0, none⟩) (Kd.R_types HO421.out BK411.out (by decide)) (fun _ hk => hk.2) (.int .i64 t413)) (fun _ hk => hk.2) (.int .i64 t414)) (fun _ hk => hk.2) (.int .i64 t415)) (fun _ hk => hk.2) (.int .i64 t416)) (fun _ hk => hk.2) (.int .i64 t417)) (fun _ hk => hk.2) (.int .i64 t418)) (fun _ hk => hk.2) (.slice Ao42 t419.length co42)) (fun _ h_ => h_.1))) (Kd.R_base ho0) hb); have n2_ := Aside0.mk (Kd.R_lower (Kd.R_new' (Kd.R_new' ho0 (Kd.R_lt (by (with_reducible repeat (first | apply Kd.R_alloc | apply Kd.R_drewN | apply Kd.R_drew)); exact (Kd.R_mono (Kd.R_far (p := ⟨gb411, 6, none⟩) (Kd.R_far (p := ⟨gb411, 5, none⟩) (Kd.R_far (p := ⟨gb411, 4, none⟩) (Kd.R_far (p := ⟨gb411, 3, none⟩) (Kd.R_far (p := ⟨gb411, 2, none⟩) (Kd.R_far (p := ⟨gb411, 1, none⟩) (Kd.R_far (p := ⟨gb411, 0, none⟩) (Kd.R_types HO_412006.out BK411.out (by decide)) (fun _ hk => hk.2) (.int .i64 t413)) (fun _ hk => hk.2) (.int .i64 t414)) (fun _ hk => hk.2) (.int .i64 t415)) (fun _ hk => hk.2) (.int .i64 t416)) (fun _ hk => hk.2) (.int .i64 t417)) (fun _ hk => hk.2) (.int .i64 t418)) (fun _ hk => hk.2) (.slice Ao42 t419.length co42)) (fun _ h_ => h_.1))))) (Kd.R_lt (by (with_reducible repeat (first | apply Kd.R_alloc | apply Kd.R_drewN | apply Kd.R_drew)); exact (Kd.R_mono (Kd.R_far (p := ⟨gb411, 6, none⟩) (Kd.R_far (p := ⟨gb411, 5, none⟩) (Kd.R_far (p := ⟨gb411, 4, none⟩) (Kd.R_far (p := ⟨gb411, 3, none⟩) (Kd.R_far (p := ⟨gb411, 2, none⟩) (Kd.R_far (p := ⟨gb411, 1, none⟩) (Kd.R_far (p := ⟨gb411, 0, none⟩) (Kd.R_types HO421.out BK411.out (by decide)) (fun _ hk => hk.2) (.int .i64 t413)) (fun _ hk => hk.2) (.int .i64 t414)) (fun _ hk => hk.2) (.int .i64 t415)) (fun _ hk => hk.2) (.int .i64 t416)) (fun _ hk => hk.2) (.int .i64 t417)) (fun _ hk => hk.2) (.int .i64 t418)) (fun _ hk => hk.2) (.slice Ao42 t419.length co42)) (fun _ h_ => h_.1))))) (below_size (by repeat (first | (with_reducible first | exact HB.out | apply below_alloc | apply pw_below_drewN | apply below_drew1 | refine below_set ?_ GE411.out) | exact HB.out)))); have n3_ := Aside0.mk (blk_below (g := gb411) (o := .cells #[.int .i64 t413, .int .i64 t414, .int .i64 t415, .int .i64 t416, .int .i64 t417, .int .i64 t418, .slice Ao42 t419.length co42] 26 (0, 0)) (by (with_reducible repeat (first | refine blk_drewN ?_ _ | refine blk_drew ?_ | refine blk_alloc ?_ _)); refine blk_put (cs := #[.int .i64 t413, .int .i64 t414, .int .i64 t415, .int .i64 t416, .int .i64 t417, .int .i64 t418, .slice Ao7 t406.length co7]) ?_ 6 _ rfl; (with_reducible repeat (first | refine blk_drewN ?_ _ | refine blk_drew ?_ | refine blk_alloc ?_ _)); refine blk_put (cs := #[.int .i64 t413, .int .i64 t414, .int .i64 t415, .int .i64 t416, .int .i64 t417, .int .i64 t405, .slice Ao7 t406.length co7]) ?_ 5 _ rfl; (with_reducible repeat (first | refine blk_drewN ?_ _ | refine blk_drew ?_ | refine blk_alloc ?_ _)); refine blk_put (cs := #[.int .i64 t413, .int .i64 t414, .int .i64 t415, .int .i64 t416, .int .i64 t404, .int .i64 t405, .slice Ao7 t406.length co7]) ?_ 4 _ rfl; (with_reducible repeat (first | refine blk_drewN ?_ _ | refine blk_drew ?_ | refine blk_alloc ?_ _)); refine blk_put (cs := #[.int .i64 t413, .int .i64 t414, .int .i64 t415, .int .i64 t403, .int .i64 t404, .int .i64 t405, .slice Ao7 t406.length co7]) ?_ 3 _ rfl; (with_reducible repeat (first | refine blk_drewN ?_ _ | refine blk_drew ?_ | refine blk_alloc ?_ _)); refine blk_put (cs := #[.int .i64 t413, .int .i64 t414, .int .i64 t402, .int .i64 t403, .int .i64 t404, .int .i64 t405, .slice Ao7 t406.length co7]) ?_ 2 _ rfl; (with_reducible repeat (first | refine blk_drewN ?_ _ | refine blk_drew ?_ | refine blk_alloc ?_ _)); refine blk_put (cs := #[.int .i64 t413, .int .i64 t401, .int .i64 t402, .int .i64 t403, .int .i64 t404, .int .i64 t405, .slice Ao7 t406.length co7]) ?_ 1 _ rfl; (with_reducible repeat (first | refine blk_drewN ?_ _ | refine blk_drew ?_ | refine blk_alloc ?_ _)); refine blk_put (cs := #[.int .i64 t400, .int .i64 t401, .int .i64 t402, .int .i64 t403, .int .i64 t404, .int .i64 t405, .slice Ao7 t406.length co7]) ?_ 0 _ rfl; (with_reducible repeat (first | refine blk_drewN ?_ _ | refine blk_drew ?_ | refine blk_alloc ?_ _)); exact BK411.out) hb); have n4_ := Aside0.mk (below_step (by repeat (first | (with_reducible first | exact HB.out | apply below_alloc | apply pw_below_drewN | apply below_drew1 | refine below_set ?_ GE411.out) | exact HB.out)) hb); clear HO_412006; clear HO421; clear BK411; clear HB; have HO_412006 := n0_; have HO421 := n1_; have HO432 := n2_; have BK411 := n3_; have HB := n4_; clear n0_ n1_ n2_ n3_ n4_; (try clear hb); (try clear hb2); (try clear hk); (try clear hi); (try clear ho0)) | ((with_reducible refine gate_dst (N := 6) rfl ?_); (try (refine gate_guard (by rfl) ?_; dsimp only)); refine box_event ?hg (N := 6) ?hd (cs := #[.int .i64 0, .int .i64 0, .int .i64 0, .int .i64 0, .int .i64 0, .int .i64 0, .slice none 0 0]) (t := 26) ?hr ?_; (case hd => rfl); (case hg => rfl); (case hr => first | (go_simp; done) | (go_simp; rfl)); intro gb435 hg w44 hbox hb; have n0_ := Aside0.mk (Kd.R_below (by (with_reducible repeat (first | apply Kd.R_alloc | apply Kd.R_drewN | apply Kd.R_drew)); exact HO_412006.out) hb); have n1_ := Aside0.mk (Kd.R_below (by (with_reducible repeat (first | apply Kd.R_alloc | apply Kd.R_drewN | apply Kd.R_drew)); exact HO421.out) hb); have n2_ := Aside0.mk (Kd.R_below (by (with_reducible repeat (first | apply Kd.R_alloc | apply Kd.R_drewN | apply Kd.R_drew)); exact HO432.out) hb); have n3_ := Aside0.mk (blk_below (g := gb411) (o := .cells #[.int .i64 t413, .int .i64 t414, .int .i64 t415, .int .i64 t416, .int .i64 t417, .int .i64 t418, .slice Ao42 t419.length co42] 26 (0, 0)) (by (with_reducible repeat (first | refine blk_drewN ?_ _ | refine blk_drew ?_ | refine blk_alloc ?_ _)); exact BK411.out) hb); have n4_ := Aside0.mk (below_step (by repeat (first | (with_reducible first | exact HB.out | apply below_alloc | apply pw_below_drewN | apply below_drew1 | refine below_set ?_ GE411.out) | exact HB.out)) hb); have n5_ := Aside0.mk (hbox); have n6_ := Aside0.mk ((by rw [hg]; exact (below_size (by repeat (first | (with_reducible first | exact HB.out | apply below_alloc | apply pw_below_drewN | apply below_drew1 | refine below_set ?_ GE411.out) | exact HB.out))) : w.heap.size ≤ gb435)); have n7_ := Aside0.mk ((by rw [hg]; exact (below_size (by repeat (first | (with_reducible first | exact HB.out | apply below_alloc | apply pw_below_drewN | apply below_drew1 | refine below_set ?_ GE411.out) | exact HB.out))) : w.heap.size ≤ gb435)); have n8_ := Aside0.mk ((by rw [hg]; exact Nat.ne_of_lt (blk_lt (g := gb411) (o := .cells #[.int .i64 t413, .int .i64 t414, .int .i64 t415, .int .i64 t416, .int .i64 t417, .int .i64 t418, .slice Ao42 t419.length co42] 26 (0, 0)) (by (with_reducible repeat (first | refine blk_drewN ?_ _ | refine blk_drew ?_ | refine blk_alloc ?_ _)); exact BK411.out)) : gb411 ≠ gb435)); have n9_ := Aside0.mk ((by rw [hg]; exact Nat.ne_of_gt (blk_lt (g := gb411) (o := .cells #[.int .i64 t413, .int .i64 t414, .int .i64 t415, .int .i64 t416, .int .i64 t417, .int .i64 t418, .slice Ao42 t419.length co42] 26 (0, 0)) (by (with_reducible repeat (first | refine blk_drewN ?_ _ | refine blk_drew ?_ | refine blk_alloc ?_ _)); exact BK411.out)) : gb435 ≠ gb411)); clear HO_412006; clear HO421; clear HO432; clear BK411; clear HB; have HO_412006 := n0_; have HO421 := n1_; have HO432 := n2_; have BK411 := n3_; have HB := n4_; have BK435 := n5_; have GW435 := n6_; have GE435 := n7_; have NB411_435 := n8_; have NB435_411 := n9_; clear n0_ n1_ n2_ n3_ n4_ n5_ n6_ n7_ n8_ n9_; clear hb hbox hg; have hnb45 := NB435_411.out; have hnc45 := NB411_435.out; have hcz46_0 : w44.cell? ⟨gb435, 0, none⟩ = some (.int .i64 0) := (blk_cell BK435.out 0).trans rfl; have hcz46_1 : w44.cell? ⟨gb435, 1, none⟩ = some (.int .i64 0) := (blk_cell BK435.out 1).trans rfl; have hcz46_2 : w44.cell? ⟨gb435, 2, none⟩ = some (.int .i64 0) := (blk_cell BK435.out 2).trans rfl; have hcz46_3 : w44.cell? ⟨gb435, 3, none⟩ = some (.int .i64 0) := (blk_cell BK435.out 3).trans rfl; have hcz46_4 : w44.cell? ⟨gb435, 4, none⟩ = some (.int .i64 0) := (blk_cell BK435.out 4).trans rfl; have hcz46_5 : w44.cell? ⟨gb435, 5, none⟩ = some (.int .i64 0) := (blk_cell BK435.out 5).trans rfl; have hcz46_6 : w44.cell? ⟨gb435, 6, none⟩ = some (.slice none 0 0) := (blk_cell BK435.out 6).trans rfl; have hfz46_0 := blk_frozen BK435.out 0; have hfz46_1 := blk_frozen BK435.out 1; have hfz46_2 := blk_frozen BK435.out 2; have hfz46_3 := blk_frozen BK435.out 3; have hfz46_4 := blk_frozen BK435.out 4; have hfz46_5 := blk_frozen BK435.out 5; have hfz46_6 := blk_frozen BK435.out 6; obtain ⟨Ao47, co47, eo47⟩ := Kd.R_slice HO432.out; subst eo47))
     go_ret
     exact ⟨by first | rfl | (simp [errW_none, errW_some] <;> rfl) | (simp [*, errW_none, errW_some] <;> rfl), by repeat (first | (with_reducible first | exact HB.out | apply below_alloc | apply pw_below_drewN | apply below_drew1 | refine below_set ?_ GE411.out | refine below_set ?_ GE435.out) | exact HB.out)⟩
end Go.Proofs.YtlmdhpfggobogaaDoor.G

namespace Go.Proofs.YtlmdhpfggobogaaDoor.Pure
open Go.Proofs.YtlmdhpfggobogaaDoor.G hiding bytesOf_length
open Go.RowKit Go.Proofs.YtlmdhpfggobogaaDoorW.PrintWords Go.Proofs.YtlmdhpfggobogaaDoorW.PrintLast
set_option linter.unusedVariables false
abbrev PT := Int × Int × Int × Int × Int × Int × List S29 × Int × Int
def badP (n : Int) : PT := (0, 0, 0, 0, 0, 0, [], n, 17)
def goodP (h : S23) (ops : List S29) : PT := (h.f0, h.f1, h.f2, h.f3, h.f4, h.f5, ops, 0, 0)
def opOf (r : Int × Int × Int × Int × ByteArray × Int × Int × Bool) : S29 := ⟨r.1, r.2.1, r.2.2.1, r.2.2.2.1, r.2.2.2.2.1, r.2.2.2.2.2.1, r.2.2.2.2.2.2.1⟩
def hdOf (r : Int × Int × Int × Int × Int × Int × Bool) : S23 := ⟨r.1, r.2.1, r.2.2.1, r.2.2.2.1, r.2.2.2.2.1, r.2.2.2.2.2.1⟩
def lineP (b : Bool) (h : S23) (ops : List S29) (l : List Int) : Option (Bool × S23 × List S29) :=
  if silI l = true then some (b, h, ops) else match run false l .gap [] with
    | some (w :: ws) =>
      if b = true then (if (stepP (strOfNums w) (ws.map strOfNums)).2.2.2.2.2.2.2 = true then some (true, h, ops ++ [opOf (stepP (strOfNums w) (ws.map strOfNums))]) else none)
      else (if (headN (strOfNums w) (ws.map strOfNums)).2.2.2.2.2.2 = true then some (true, hdOf (headN (strOfNums w) (ws.map strOfNums)), ops) else none)
    | _ => none
def parsC : List (List Int) → Nat → Bool → S23 → List S29 → PT
  | [], i, b, h, ops => if b = true then goodP h ops else badP ((i + 1 : Nat) : Int)
  | l :: t, i, b, h, ops => match lineP b h ops l with
    | some r => parsC t (i + 1) r.1 r.2.1 r.2.2
    | none => badP ((i + 1 : Nat) : Int)
def linesT : List Int → List Int → List (List Int)
  | cur, [] => if cur = [] then [] else [cur]
  | cur, c :: t => if c = 10 then cur :: linesT [] t else linesT (cur ++ [c]) t
def trimL (ls : List (List Int)) : List (List Int) := if ls.getLast? = some [] then ls.dropLast else ls
theorem linesA_ne : ∀ (l cur : List Int), linesA cur l ≠ []
  | [], cur => by simp [linesA]
  | c :: t, cur => by
    unfold linesA
    split
    · simp
    · exact linesA_ne t _
theorem trim_lines : ∀ (l cur : List Int), trimL (linesA cur l) = linesT cur l
  | [], cur => by
    unfold linesA linesT trimL
    by_cases h : cur = []
    · rw [if_pos h, h]; rfl
    · rw [if_neg h, if_neg (by simpa using h)]
  | c :: t, cur => by
    unfold linesA linesT
    by_cases h : c = 10
    · rw [if_pos h, if_pos h, ← trim_lines t []]
      have hne := linesA_ne t []
      unfold trimL
      rw [List.getLast?_cons_of_ne_nil hne, List.dropLast_cons_of_ne_nil hne]
      split <;> rfl
    · rw [if_neg h, if_neg h]
      exact trim_lines t _
theorem readH_N (i : Nat) : ∀ (xs : List ByteArray) (h : S23), (∀ y ∈ xs, y.size ≤ 8796093022208) → readH i xs h = some (readN i xs h)
  | [], h, _ => rfl
  | x :: xs, h, hx => by
    have h1 := hx x (by simp)
    have hn : script_readNumber.f x = some (rdNum x) := by unfold script_readNumber.f; rw [if_pos (by omega)]
    unfold readH readN numR
    rw [hn, Option.bind_some]
    by_cases hr : (rdNum x).2 = true
    · rw [if_pos hr, if_pos hr]
      exact readH_N (i + 1) xs _ (fun y hy => hx y (by simp [hy]))
    · rw [if_neg hr, if_neg hr]
theorem head_P (x : ByteArray) (xs : List ByteArray) (hl : xs.length < 4611686018427387903) (hx : ∀ y ∈ xs, y.size ≤ 8796093022208) : script_head.f (x :: xs) = some (headN x xs) := by
  show headC x xs = _
  unfold headC headN
  rw [if_pos (by rw [List.length_cons]; omega), readH_N 0 xs zeroH hx]
  by_cases h1 : (x.toList == storeB.toList) = true
  · rw [if_pos h1, if_pos h1]
    split <;> rfl
  · rw [if_neg h1, if_neg h1, ite_self]
theorem parse_l0 (Ls : List ByteArray) (hLs : Ls.length < 1099511627776) (hsz : ∀ s ∈ Ls, s.size < 8796093022208) : ∀ (d i : Nat) (b : Bool) (h : S23) (ops : List S29), i + d = Ls.length → ops.length ≤ i →
    Ev (fun k => script_Parse.l0 k b Ls Ls (Ls.length : Int) i h.f0 h.f1 h.f2 h.f3 h.f4 h.f5 ops) (parsC ((Ls.drop i).map bytesOf) i b h ops)
  | 0, i, b, h, ops, hd, ho => by
    rw [List.drop_eq_nil_of_le (by omega)]
    refine Ev.step (f := fun _ => some (if b = true then goodP h ops else badP ((i + 1 : Nat) : Int))) (fun k => ?_) (Ev.now _)
    simp only [script_Parse.l0]
    rw [if_neg (by omega), show (Ls.length : Int) = (i : Int) by omega, w64_nat i (by omega)]
    split <;> rfl
  | d + 1, i, b, h, ops, hd, ho => by
    have hi : i < Ls.length := by omega
    have hrd : rdOf ByteArray.empty Ls (i : Int) = Ls[i] := by
      unfold rdOf
      rw [Int.toNat_natCast, List.getD_eq_getElem?_getD, List.getElem?_eq_getElem hi]; rfl
    have hs := hsz Ls[i] (List.getElem_mem hi)
    rw [List.drop_eq_getElem_cons hi, List.map_cons]
    generalize Ls[i] = s at hrd hs
    have hwn := w64_nat i (by omega)
    have next : ∀ (b' : Bool) (h' : S23) (ops' : List S29), ops'.length ≤ i + 1 → Ev (fun k => script_Parse.l0 k b' Ls Ls (Ls.length : Int) ((i + 1 : Nat) : Int) h'.f0 h'.f1 h'.f2 h'.f3 h'.f4 h'.f5 ops') (parsC ((Ls.drop (i + 1)).map bytesOf) (i + 1) b' h' ops') :=
      fun b' h' ops' ho' => parse_l0 Ls hLs hsz d (i + 1) b' h' ops' (by omega) ho'
    obtain ⟨L, hL⟩ := words_said s hs
    have st : ∀ k, script_Parse.l0 (k + 1) b Ls Ls (Ls.length : Int) i h.f0 h.f1 h.f2 h.f3 h.f4 h.f5 ops = (script_words.f k s).bind fun bt111 => (if bt111.2 = true then (script_Parse.j2 k b Ls i bt111.1 bt111.2 Ls (Ls.length : Int) i ((bt111.1.length : Int) == 0) h.f0 h.f1 h.f2 h.f3 h.f4 h.f5 ops) else (script_Parse.j2 k b Ls i bt111.1 bt111.2 Ls (Ls.length : Int) i false h.f0 h.f1 h.f2 h.f3 h.f4 h.f5 ops)) := by
      intro k
      simp only [script_Parse.l0]
      rw [if_pos (by omega), if_pos (by omega), if_pos (by omega), hrd]
    refine Ev.step st ?_
    refine Ev.bind hL ?_
    unfold parsC lineP
    by_cases hsil : silI (bytesOf s) = true
    · rw [if_pos hsil, run_silent _ hsil]
      refine Ev.congr (f := fun k => script_Parse.j2 k b Ls i [] true Ls (Ls.length : Int) i true h.f0 h.f1 h.f2 h.f3 h.f4 h.f5 ops) (fun k => by rw [if_pos rfl]; rfl) ?_
      refine Ev.step (fun k => ?_) (next b h ops (by omega))
      simp only [script_Parse.j2]
      rw [if_pos trivial, hwn]
    · rw [if_neg hsil]
      obtain ⟨e1, e2⟩ := run_loud (bytesOf s) (by simpa using hsil)
      rw [e1]
      have bad : ∀ (M : List ByteArray), Ev (fun k => script_Parse.j3 k b Ls i M false Ls (Ls.length : Int) i false h.f0 h.f1 h.f2 h.f3 h.f4 h.f5 ops) (badP ((i + 1 : Nat) : Int)) := by
        intro M
        refine Ev.step (f := fun _ => some (badP ((i + 1 : Nat) : Int))) (fun k => ?_) (Ev.now _)
        simp only [script_Parse.j3]
        rw [if_neg (by decide), if_neg (by decide), hwn]
        rfl
      cases hrun : run false (bytesOf s) .gap [] with
      | none =>
        refine Ev.congr (f := fun k => script_Parse.j2 k b Ls i L false Ls (Ls.length : Int) i false h.f0 h.f1 h.f2 h.f3 h.f4 h.f5 ops) (fun k => by rw [if_neg Bool.false_ne_true]) ?_
        refine Ev.step (fun k => ?_) (bad L)
        simp only [script_Parse.j2]
        rw [if_neg (by decide), if_neg (by decide)]
      | some r =>
        cases r with
        | nil => exact absurd rfl (e2 [] hrun)
        | cons w ws =>
          obtain ⟨b1, b2⟩ := words_small s hs hrun
          refine Ev.congr (f := fun k => script_Parse.j2 k b Ls i (strOfNums w :: ws.map strOfNums) true Ls (Ls.length : Int) i false h.f0 h.f1 h.f2 h.f3 h.f4 h.f5 ops) (fun k => ?_) ?_
          · show (if true = true then _ else _) = _
            rw [if_pos rfl]
            show script_Parse.j2 k b Ls i (strOfNums w :: ws.map strOfNums) true Ls (Ls.length : Int) i (((strOfNums w :: ws.map strOfNums).length : Int) == 0) _ _ _ _ _ _ _ = _
            rw [show (((strOfNums w :: ws.map strOfNums).length : Int) == 0) = false from by rw [beq_eq_false_iff_ne, List.length_cons]; omega]
          · refine Ev.step (f := fun k => script_Parse.j3 k b Ls i (strOfNums w :: ws.map strOfNums) true Ls (Ls.length : Int) i (!b) h.f0 h.f1 h.f2 h.f3 h.f4 h.f5 ops) (fun k => by simp only [script_Parse.j2]; rw [if_neg (by decide), if_pos trivial]) ?_
            cases b with
            | false =>
              dsimp only
              rw [if_neg (by decide)]
              have hh := head_P (strOfNums w) (ws.map strOfNums) b1 b2
              have st3 : ∀ k, script_Parse.j3 (k + 1) false Ls i (strOfNums w :: ws.map strOfNums) true Ls (Ls.length : Int) i (!false) h.f0 h.f1 h.f2 h.f3 h.f4 h.f5 ops = (if (headN (strOfNums w) (ws.map strOfNums)).2.2.2.2.2.2 = true then script_Parse.l0 k true Ls Ls (Ls.length : Int) ((i + 1 : Nat) : Int) (headN (strOfNums w) (ws.map strOfNums)).1 (headN (strOfNums w) (ws.map strOfNums)).2.1 (headN (strOfNums w) (ws.map strOfNums)).2.2.1 (headN (strOfNums w) (ws.map strOfNums)).2.2.2.1 (headN (strOfNums w) (ws.map strOfNums)).2.2.2.2.1 (headN (strOfNums w) (ws.map strOfNums)).2.2.2.2.2.1 ops else some (badP ((i + 1 : Nat) : Int))) := by
                intro k
                simp only [script_Parse.j3]
                rw [if_pos (by decide), hh, Option.bind_some, hwn]
                rfl
              refine Ev.step st3 ?_
              generalize headN (strOfNums w) (ws.map strOfNums) = r
              by_cases hr : r.2.2.2.2.2.2 = true
              · rw [if_pos hr]
                exact Ev.congr (fun k => if_pos hr) (next true (hdOf r) ops (by omega))
              · rw [if_neg hr]
                exact Ev.congr (fun k => if_neg hr) (Ev.now _)
            | true =>
              dsimp only
              rw [if_pos rfl]
              have hst := step_P (strOfNums w) (ws.map strOfNums) b1 b2
              have st3 : ∀ k, script_Parse.j3 (k + 1) true Ls i (strOfNums w :: ws.map strOfNums) true Ls (Ls.length : Int) i (!true) h.f0 h.f1 h.f2 h.f3 h.f4 h.f5 ops = (script_step.f k (strOfNums w :: ws.map strOfNums)).bind fun bt123 => (if bt123.2.2.2.2.2.2.2 = true then script_Parse.l0 k true Ls Ls (Ls.length : Int) ((i + 1 : Nat) : Int) h.f0 h.f1 h.f2 h.f3 h.f4 h.f5 (ops ++ [opOf bt123]) else some (badP ((i + 1 : Nat) : Int))) := by
                intro k
                simp only [script_Parse.j3]
                rw [if_neg (by decide), if_pos trivial, hwn]
                congr 1
                funext bt123
                rw [if_pos (by omega)]
                rfl
              refine Ev.step st3 (Ev.bind hst ?_)
              generalize stepP (strOfNums w) (ws.map strOfNums) = r
              by_cases hr : r.2.2.2.2.2.2.2 = true
              · rw [if_pos hr]
                exact Ev.congr (fun k => if_pos hr) (next true h (ops ++ [opOf r]) (by rw [List.length_append, List.length_singleton]; omega))
              · rw [if_neg hr]
                exact Ev.congr (fun k => if_neg hr) (Ev.now _)
def parsP (s : ByteArray) : PT := parsC (linesT [] (bytesOf s)) 0 false zeroH []
theorem linesA_size (B : Nat) : ∀ (l cur : List Int), cur.length + l.length ≤ B → ∀ u ∈ linesA cur l, u.length ≤ B
  | [], cur, h, u, hu => by simp [linesA] at hu; subst hu; simpa using h
  | c :: t, cur, h, u, hu => by
    unfold linesA at hu
    rw [List.length_cons] at h
    split at hu
    · rcases List.mem_cons.1 hu with e | e
      · subst e; omega
      · exact linesA_size B t [] (by simp; omega) u e
    · exact linesA_size B t _ (by simp; omega) u hu
theorem linesA_len : ∀ (l cur : List Int), (linesA cur l).length ≤ l.length + 1
  | [], cur => by simp [linesA]
  | c :: t, cur => by
    unfold linesA
    split
    · have := linesA_len t []; simp; omega
    · have := linesA_len t (cur ++ [c]); simp; omega
theorem parse_P (s : ByteArray) (hs : s.size ≤ 1000000000) : Ev (fun k => script_Parse.f k s) (parsP s) := by
  unfold script_Parse.f
  obtain ⟨Ls, hLs⟩ : ∃ Ls, Lib.splitB nl 0 (Lib.countB s nl) s = Ls := ⟨_, rfl⟩
  have hsp : strings_Split.f s (⟨#[10]⟩ : ByteArray) = some Ls := by
    unfold strings_Split.f
    rw [if_pos ⟨by omega, by decide⟩]
    exact congrArg some hLs
  have hmap : Ls.map bytesOf = linesA [] (bytesOf s) := by rw [← hLs]; exact split_lines _ s (Nat.le_refl _)
  have hne : Ls ≠ [] := by
    intro e
    rw [e] at hmap
    exact linesA_ne _ _ hmap.symm
  have hlen : Ls.length ≤ s.size + 1 := by
    have := congrArg List.length hmap
    rw [List.length_map] at this
    have h2 := linesA_len (bytesOf s) []
    rw [G.bytesOf_length] at h2
    omega
  have hszs : ∀ u ∈ Ls, u.size < 8796093022208 := by
    intro u hu
    have h1 := linesA_size s.size (bytesOf s) [] (by rw [G.bytesOf_length]; simp) (bytesOf u) (by rw [← hmap]; exact List.mem_map.2 ⟨u, hu, rfl⟩)
    rw [G.bytesOf_length] at h1
    omega
  have hpos : 0 < Ls.length := List.length_pos_iff.2 hne
  have hw : wrap64 ((Ls.length : Int) - 1) = ((Ls.length - 1 : Nat) : Int) := by rw [w64 (by omega) (by omega)]; omega
  have hlast : rdOf ByteArray.empty Ls ((Ls.length - 1 : Nat) : Int) = Ls.getLast hne := by
    unfold rdOf
    rw [Int.toNat_natCast, List.getD_eq_getElem?_getD, List.getElem?_eq_getElem (by omega), List.getLast_eq_getElem]; rfl
  have htrim := trim_lines (bytesOf s) []
  rw [← hmap] at htrim
  have hgl : (Ls.map bytesOf).getLast? = some (bytesOf (Ls.getLast hne)) := by
    rw [List.getLast?_map, List.getLast?_eq_some_getLast hne]; rfl
  have go : ∀ Ms : List ByteArray, Ms.length ≤ Ls.length → (∀ u ∈ Ms, u ∈ Ls) → Ms.map bytesOf = linesT [] (bytesOf s) → Ev (fun k => script_Parse.j0 k false Ms 0 0 0 0 0 0) (parsP s) := by
    intro Ms h1 h2 h3
    have := parse_l0 Ms (by omega) (fun u hu => hszs u (h2 u hu)) Ms.length 0 false zeroH [] (by omega) (by simp)
    rw [List.drop_zero, h3] at this
    refine Ev.step (fun k => ?_) this
    simp only [script_Parse.j0]
    rfl
  have pre : ∀ k, ((strings_Split.f s (⟨#[10]⟩ : ByteArray)).bind fun t103 => (if 0 ≤ (wrap64 ((t103.length : Int) - 1)) then (if (wrap64 ((t103.length : Int) - 1)) < (t103.length : Int) then (if (rdOf ByteArray.empty t103 (wrap64 ((t103.length : Int) - 1))).toList = ([] : List UInt8) then (if (wrap64 ((t103.length : Int) - 1)) ≤ (t103.length : Int) then (script_Parse.j0 k false (t103.take ((wrap64 ((t103.length : Int) - 1)) : Int).toNat) 0 0 0 0 0 0) else (none)) else (script_Parse.j0 k false t103 0 0 0 0 0 0)) else (none)) else (none))) = (if (Ls.getLast hne).toList = ([] : List UInt8) then (script_Parse.j0 k false (Ls.take (Ls.length - 1)) 0 0 0 0 0 0) else (script_Parse.j0 k false Ls 0 0 0 0 0 0)) := by
    intro k
    rw [hsp, Option.bind_some, hw, if_pos (by omega), if_pos (by omega), hlast, if_pos (show ((Ls.length - 1 : Nat) : Int) ≤ (Ls.length : Int) by omega), Int.toNat_natCast]
  refine Ev.congr pre ?_
  have hemp : (Ls.getLast hne).toList = ([] : List UInt8) ↔ bytesOf (Ls.getLast hne) = [] := by
    rw [ByteArray.toList_eq]
    unfold bytesOf
    rw [List.map_eq_nil_iff]
  by_cases he : (Ls.getLast hne).toList = ([] : List UInt8)
  · refine Ev.congr (fun k => if_pos he) ?_
    have hb := hemp.1 he
    unfold trimL at htrim
    rw [hgl, hb, if_pos rfl] at htrim
    refine go _ (by rw [List.length_take]; omega) (fun u hu => List.mem_of_mem_take hu) ?_
    rw [← htrim, List.dropLast_eq_take, List.length_map, List.map_take]
  · refine Ev.congr (fun k => if_neg he) ?_
    unfold trimL at htrim
    rw [hgl, if_neg (fun e => he (hemp.2 (Option.some.inj e)))] at htrim
    exact go Ls (Nat.le_refl _) (fun u hu => hu) htrim
end Go.Proofs.YtlmdhpfggobogaaDoor.Pure

namespace Go.Proofs.YtlmdhpfggobogaaDoor.Pure
open Go.Proofs.YtlmdhpfggobogaaDoor.G hiding bytesOf_length
open Go.RowKit Go.Proofs.YtlmdhpfggobogaaDoorW.PrintWords Go.Proofs.YtlmdhpfggobogaaDoorW.PrintLast
set_option linter.unusedVariables false
theorem rhead_P (x : ByteArray) (xs : List ByteArray) : barrowref24_head.f (x :: xs) = some (headN x xs) := rfl
theorem rline_P (s : ByteArray) (hs : s.size ≤ 1000000000) (T : List (List Int)) (f i lines : Nat) (hf : f ≤ i) (hi : i ≤ s.size) (hl : lines ≤ f) (b : Bool) (h : S23) (ops : List S29) (ho : ops.length ≤ lines)
    (next : ∀ (b' : Bool) (h' : S23) (ops' : List S29), ops'.length ≤ lines + 1 → Ev (fun k => barrowref24_Parse.l0 k s b' ((lines + 1 : Nat) : Int) ((i + 1 : Nat) : Int) ((i + 1 : Nat) : Int) h'.f0 h'.f1 h'.f2 h'.f3 h'.f4 h'.f5 ops') (parsC T (lines + 1) b' h' ops')) :
    Ev (fun k => barrowref24_Parse.j2 k s b lines f i false h.f0 h.f1 h.f2 h.f3 h.f4 h.f5 ops) (parsC (bytesOf (s.extract f i) :: T) lines b h ops) := by
  have hsz : (s.extract f i).size ≤ s.size := by rw [← G.bytesOf_length, ext_bytes, List.length_take, List.length_drop, G.bytesOf_length]; omega
  have hwn := w64_nat i (by omega)
  have hwl := w64_nat lines (by omega)
  obtain ⟨u, hu⟩ : ∃ u, s.extract f i = u := ⟨_, rfl⟩
  have st : ∀ k, barrowref24_Parse.j2 (k + 1) s b lines f i false h.f0 h.f1 h.f2 h.f3 h.f4 h.f5 ops = (barrowref24_silent.f k u).bind fun t371 => (if t371 = true then (barrowref24_Parse.l0 k s b ((lines + 1 : Nat) : Int) ((i + 1 : Nat) : Int) ((i + 1 : Nat) : Int) h.f0 h.f1 h.f2 h.f3 h.f4 h.f5 ops) else ((barrowref24_cut.f k u).bind fun bt372 => (if bt372.2 = true then (if b = true then ((barrowref24_step.f k bt372.1).bind fun bt376 => (if bt376.2.2.2.2.2.2.2 = true then (barrowref24_Parse.l0 k s b ((lines + 1 : Nat) : Int) ((i + 1 : Nat) : Int) ((i + 1 : Nat) : Int) h.f0 h.f1 h.f2 h.f3 h.f4 h.f5 (ops ++ [opOf bt376])) else (some (badP ((lines + 1 : Nat) : Int))))) else ((barrowref24_head.f bt372.1).bind fun bt388 => (if bt388.2.2.2.2.2.2 = true then (barrowref24_Parse.l0 k s true ((lines + 1 : Nat) : Int) ((i + 1 : Nat) : Int) ((i + 1 : Nat) : Int) bt388.1 bt388.2.1 bt388.2.2.1 bt388.2.2.2.1 bt388.2.2.2.2.1 bt388.2.2.2.2.2.1 ops) else (some (badP ((lines + 1 : Nat) : Int)))))) else (some (badP ((lines + 1 : Nat) : Int)))))) := by
    intro k
    simp only [barrowref24_Parse.j2]
    rw [if_neg (by decide), if_pos (by omega), if_pos (by omega), if_pos (by omega), Int.toNat_natCast, Int.toNat_natCast, hu, hwn, hwl]
    simp only [if_pos (show ops.length < 2199023255552 by omega)]
    rfl
  rw [hu] at hsz
  rw [hu]
  refine Ev.step st (Ev.bind (silent_ev u (by omega)) ?_)
  unfold parsC lineP
  by_cases hsil : silI (bytesOf u) = true
  · rw [if_pos hsil]
    exact Ev.congr (fun k => if_pos hsil) (next b h ops (by omega))
  · rw [if_neg hsil]
    refine Ev.congr (fun k => if_neg hsil) ?_
    obtain ⟨L, hL⟩ := cut_said u (by omega)
    refine Ev.bind hL ?_
    obtain ⟨e1, e2⟩ := run_loud (bytesOf u) (by simpa using hsil)
    cases hrun : run false (bytesOf u) .gap [] with
    | none => exact Ev.congr (fun k => if_neg Bool.false_ne_true) (Ev.now _)
    | some r =>
      cases r with
      | nil => exact absurd rfl (e2 [] hrun)
      | cons w ws =>
        obtain ⟨b1, b2⟩ := words_small u (by omega) hrun
        refine Ev.congr (fun k => if_pos rfl) ?_
        cases b with
        | true =>
          dsimp only
          rw [if_pos rfl]
          refine Ev.congr (fun k => if_pos rfl) ?_
          refine Ev.bind (rstep_P (strOfNums w) (ws.map strOfNums) b1 b2) ?_
          generalize stepP (strOfNums w) (ws.map strOfNums) = r
          by_cases hr : r.2.2.2.2.2.2.2 = true
          · rw [if_pos hr]
            exact Ev.congr (fun k => if_pos hr) (next true h (ops ++ [opOf r]) (by rw [List.length_append, List.length_singleton]; omega))
          · rw [if_neg hr]
            exact Ev.congr (fun k => if_neg hr) (Ev.now _)
        | false =>
          dsimp only
          rw [if_neg (by decide)]
          refine Ev.congr (fun k => if_neg (by decide)) ?_
          show Ev (fun k => (barrowref24_head.f (strOfNums w :: ws.map strOfNums)).bind _) _
          rw [rhead_P]
          generalize headN (strOfNums w) (ws.map strOfNums) = r
          by_cases hr : r.2.2.2.2.2.2 = true
          · rw [if_pos hr]
            exact Ev.congr (fun k => if_pos hr) (next true (hdOf r) ops (by omega))
          · rw [if_neg hr]
            exact Ev.congr (fun k => if_neg hr) (Ev.now _)
theorem rparse_end (s : ByteArray) (hs : s.size ≤ 1000000000) (b : Bool) (h : S23) (ops : List S29) (lines : Nat) (hl : lines ≤ s.size + 1) (F : Int) : Ev (fun k => barrowref24_Parse.l0 k s b lines F ((s.size + 1 : Nat) : Int) h.f0 h.f1 h.f2 h.f3 h.f4 h.f5 ops) (parsC [] lines b h ops) := by
  refine Ev.step (f := fun _ => some (if b = true then goodP h ops else badP ((lines + 1 : Nat) : Int))) (fun k => ?_) (Ev.now _)
  simp only [barrowref24_Parse.l0]
  rw [if_neg (by omega), w64_nat lines (by omega)]
  split <;> rfl
theorem rparse_l0 (s : ByteArray) (hs : s.size ≤ 1000000000) : ∀ (d i f lines : Nat) (b : Bool) (h : S23) (ops : List S29), i + d = s.size → f ≤ i → lines ≤ f → ops.length ≤ lines →
    Ev (fun k => barrowref24_Parse.l0 k s b lines f i h.f0 h.f1 h.f2 h.f3 h.f4 h.f5 ops) (parsC (linesT (bytesOf (s.extract f i)) ((bytesOf s).drop i)) lines b h ops)
  | 0, i, f, lines, b, h, ops, hd, hf, hl, ho => by
    have hi : i = s.size := by omega
    rw [List.drop_eq_nil_of_le (by rw [G.bytesOf_length]; omega)]
    have st : ∀ k, barrowref24_Parse.l0 (k + 1) s b lines f i h.f0 h.f1 h.f2 h.f3 h.f4 h.f5 ops = barrowref24_Parse.j1 k s b lines f i false h.f0 h.f1 h.f2 h.f3 h.f4 h.f5 ops := by
      intro k
      simp only [barrowref24_Parse.l0]
      rw [if_pos (by omega), if_neg (by omega)]
    have st2 : ∀ k, barrowref24_Parse.j1 (k + 1) s b lines f i false h.f0 h.f1 h.f2 h.f3 h.f4 h.f5 ops = barrowref24_Parse.j2 k s b lines f i ((f : Int) == (s.size : Int)) h.f0 h.f1 h.f2 h.f3 h.f4 h.f5 ops := by
      intro k
      simp only [barrowref24_Parse.j1]
      rw [if_neg (by decide), if_pos (by omega)]
    refine Ev.step st (Ev.step st2 ?_)
    by_cases hfe : f = s.size
    · have e1 : ((f : Int) == (s.size : Int)) = true := by rw [beq_iff_eq]; omega
      have e2 : bytesOf (s.extract f i) = [] := by rw [show f = i by omega]; exact ext_self s i
      rw [e1, e2]
      refine Ev.step (f := fun _ => some (if b = true then goodP h ops else badP ((lines + 1 : Nat) : Int))) (fun k => ?_) (Ev.now _)
      simp only [barrowref24_Parse.j2]
      rw [if_pos trivial, w64_nat lines (by omega)]
      split <;> rfl
    · have e1 : ((f : Int) == (s.size : Int)) = false := by rw [beq_eq_false_iff_ne]; omega
      have e2 : bytesOf (s.extract f i) ≠ [] := by
        intro e
        have := congrArg List.length e
        rw [ext_bytes, List.length_take, List.length_drop, G.bytesOf_length] at this
        simp at this
        omega
      have e3 : linesT (bytesOf (s.extract f i)) [] = [bytesOf (s.extract f i)] := by rw [linesT, if_neg e2]
      rw [e1, e3]
      refine rline_P s hs [] f i lines hf (by omega) hl b h ops ho ?_
      intro b' h' ops' ho'
      rw [hi]
      exact rparse_end s hs b' h' ops' (lines + 1) (by omega) _
  | d + 1, i, f, lines, b, h, ops, hd, hf, hl, ho => by
    have hlt : i < s.size := by omega
    have hwn := w64_nat i (by omega)
    rw [bytesOf_drop s i hlt]
    have st : ∀ k, barrowref24_Parse.l0 (k + 1) s b lines f i h.f0 h.f1 h.f2 h.f3 h.f4 h.f5 ops = barrowref24_Parse.j1 k s b lines f i ((bt s i) != 10) h.f0 h.f1 h.f2 h.f3 h.f4 h.f5 ops := by
      intro k
      simp only [barrowref24_Parse.l0]
      rw [if_pos (by omega), if_pos (by omega), if_pos (by omega)]
    refine Ev.step st ?_
    by_cases h10 : bt s i = 10
    · have e1 : ((bt s i) != 10) = false := by rw [h10]; rfl
      have e2 : linesT (bytesOf (s.extract f i)) (bt s i :: (bytesOf s).drop (i + 1)) = bytesOf (s.extract f i) :: linesT [] ((bytesOf s).drop (i + 1)) := by
        rw [linesT, if_pos h10]
      rw [e1, e2]
      refine Ev.step (f := fun k => barrowref24_Parse.j2 k s b lines f i false h.f0 h.f1 h.f2 h.f3 h.f4 h.f5 ops) (fun k => ?_) ?_
      · simp only [barrowref24_Parse.j1]
        rw [if_neg (by decide), if_neg (by omega)]
      · refine rline_P s hs _ f i lines hf (by omega) hl b h ops ho ?_
        intro b' h' ops' ho'
        have := rparse_l0 s hs d (i + 1) (i + 1) (lines + 1) b' h' ops' (by omega) (Nat.le_refl _) (by omega) ho'
        rw [ext_self] at this
        exact this
    · have e1 : ((bt s i) != 10) = true := by rw [bne_iff_ne]; exact h10
      have e2 : linesT (bytesOf (s.extract f i)) (bt s i :: (bytesOf s).drop (i + 1)) = linesT (bytesOf (s.extract f (i + 1))) ((bytesOf s).drop (i + 1)) := by
        rw [linesT, if_neg h10, ext_snoc s f i hf hlt]
      rw [e1, e2]
      refine Ev.step (fun k => ?_) (rparse_l0 s hs d (i + 1) f lines b h ops (by omega) (by omega) hl ho)
      simp only [barrowref24_Parse.j1]
      rw [if_pos trivial, hwn]
theorem rparse_P (s : ByteArray) (hs : s.size ≤ 1000000000) : Ev (fun k => barrowref24_Parse.f k s) (parsP s) := by
  have := rparse_l0 s hs s.size 0 0 0 false zeroH [] (by omega) (by omega) (by omega) (by simp)
  rw [ext_self, List.drop_zero] at this
  exact this
end Go.Proofs.YtlmdhpfggobogaaDoor.Pure

namespace Go.Proofs.YtlmdhpfggobogaaDoor.Pure
open Go.Proofs.YtlmdhpfggobogaaDoor.G hiding bytesOf_length
open Go.RowKit Go.Proofs.YtlmdhpfggobogaaDoorW.PrintWords Go.Proofs.YtlmdhpfggobogaaDoorW.PrintLast
set_option linter.unusedVariables false
def exT : ByteArray := ⟨#[115, 116, 111, 114, 101, 32, 50, 32, 49, 32, 49, 48, 32, 49, 48, 48, 32, 52, 32, 56, 10, 114, 101, 97, 100, 32, 49, 32, 48]⟩
def exH : List Int := [115, 116, 111, 114, 101, 32, 50, 32, 49, 32, 49, 48, 32, 49, 48, 48, 32, 52, 32, 56]
def exR : List Int := [114, 101, 97, 100, 32, 49, 32, 48]
def n0 : ByteArray := ⟨#[48]⟩
def n1 : ByteArray := ⟨#[49]⟩
def n2 : ByteArray := ⟨#[50]⟩
def n4 : ByteArray := ⟨#[52]⟩
def n8 : ByteArray := ⟨#[56]⟩
def n10 : ByteArray := ⟨#[49, 48]⟩
def n100 : ByteArray := ⟨#[49, 48, 48]⟩
theorem v0 : numR n0 = some 0 := numR_digits n0 0 (by decide) (by decide +kernel) (by decide +kernel) (by decide +kernel) (by decide +kernel)
theorem v1 : numR n1 = some 1 := numR_digits n1 1 (by decide) (by decide +kernel) (by decide +kernel) (by decide +kernel) (by decide +kernel)
theorem v2 : numR n2 = some 2 := numR_digits n2 2 (by decide) (by decide +kernel) (by decide +kernel) (by decide +kernel) (by decide +kernel)
theorem v4 : numR n4 = some 4 := numR_digits n4 4 (by decide) (by decide +kernel) (by decide +kernel) (by decide +kernel) (by decide +kernel)
theorem v8 : numR n8 = some 8 := numR_digits n8 8 (by decide) (by decide +kernel) (by decide +kernel) (by decide +kernel) (by decide +kernel)
theorem v10 : numR n10 = some 10 := numR_digits n10 10 (by decide) (by decide +kernel) (by decide +kernel) (by decide +kernel) (by decide +kernel)
theorem v100 : numR n100 = some 100 := numR_digits n100 100 (by decide) (by decide +kernel) (by decide +kernel) (by decide +kernel) (by decide +kernel)
theorem exHead : headN storeB [n2, n1, n10, n100, n4, n8] = (2, 1, 10, 100, 4, 8, true) := by
  unfold headN
  rw [if_pos (show [n2, n1, n10, n100, n4, n8].length = 6 from rfl), if_pos (by decide +kernel)]
  simp only [readN, v2, v1, v10, v100, v4, v8]
  rfl
def readB : ByteArray := ⟨#[114, 101, 97, 100]⟩
theorem readK : kindUpto readB 16 = 7 := by decide +kernel
theorem exStep : stepP readB [n1, n0] = (7, 1, 0, 0, ⟨#[]⟩, 0, 0, true) := by
  unfold stepP
  rw [readK, if_pos (by decide +kernel), if_pos (by decide +kernel)]
  have e : bytesOf (shp 7).2 = [114, 99] := by decide +kernel
  rw [e]
  simp only [readP]
  rw [if_neg (by decide), v1]
  dsimp only
  rw [if_neg (by decide), v0]
  rfl
theorem exLines : linesT [] (bytesOf exT) = [exH, exR] := by decide +kernel
theorem exW1 : run false exH .gap [] = some [bytesOf storeB, [50], [49], [49, 48], [49, 48, 48], [52], [56]] := by decide +kernel
theorem exW2 : run false exR .gap [] = some [bytesOf readB, [49], [48]] := by decide +kernel
theorem exLine1 : lineP false zeroH [] exH = some (true, ⟨2, 1, 10, 100, 4, 8⟩, []) := by
  unfold lineP
  rw [if_neg (by decide +kernel), exW1]
  dsimp only
  rw [if_neg (by decide)]
  have e : headN (strOfNums (bytesOf storeB)) ([[50], [49], [49, 48], [49, 48, 48], [52], [56]].map strOfNums) = (2, 1, 10, 100, 4, 8, true) := by
    rw [str_bytesOf]; exact exHead
  rw [e]
  rfl
theorem exParse : parsP exT = (2, 1, 10, 100, 4, 8, [⟨7, 1, 0, 0, ⟨#[]⟩, 0, 0⟩], 0, 0) := by
  unfold parsP
  rw [exLines]
  have l2 : lineP true ⟨2, 1, 10, 100, 4, 8⟩ [] exR = some (true, ⟨2, 1, 10, 100, 4, 8⟩, [⟨7, 1, 0, 0, ⟨#[]⟩, 0, 0⟩]) := by
    unfold lineP
    rw [if_neg (by decide +kernel), exW2]
    dsimp only
    rw [if_pos rfl]
    have e : stepP (strOfNums (bytesOf readB)) ([[49], [48]].map strOfNums) = (7, 1, 0, 0, ⟨#[]⟩, 0, 0, true) := by
      rw [str_bytesOf]; exact exStep
    rw [e]
    rfl
  unfold parsC
  rw [exLine1]
  dsimp only
  unfold parsC
  rw [l2]
  rfl
theorem parsC_ops : ∀ (L : List (List Int)) (i : Nat) (b : Bool) (h : S23) (ops : List S29), (parsC L i b h ops).2.2.2.2.2.2.1.length ≤ ops.length + L.length
  | [], i, b, h, ops => by
    unfold parsC
    split <;> simp [goodP, badP]
  | l :: t, i, b, h, ops => by
    have key : ∀ r, lineP b h ops l = some r → r.2.2.length ≤ ops.length + 1 := by
      intro r hr
      unfold lineP at hr
      repeat' split at hr
      all_goals first | (cases hr; done) | (have := Option.some.inj hr; subst this; simp)
    unfold parsC
    split
    · rename_i r hr
      have h1 := key r hr
      have h2 := parsC_ops t (i + 1) r.1 r.2.1 r.2.2
      rw [List.length_cons]; omega
    · simp [badP]
theorem linesT_len : ∀ (l cur : List Int), (linesT cur l).length ≤ l.length + 1
  | [], cur => by unfold linesT; split <;> simp
  | c :: t, cur => by
    unfold linesT
    split
    · have := linesT_len t []; simp; omega
    · have := linesT_len t (cur ++ [c]); simp; omega
theorem parsP_ops (s : ByteArray) : (parsP s).2.2.2.2.2.2.1.length ≤ s.size + 1 := by
  have h1 := parsC_ops (linesT [] (bytesOf s)) 0 false zeroH []
  have h2 := linesT_len (bytesOf s) []
  rw [G.bytesOf_length] at h2
  unfold parsP
  simp at h1
  omega
theorem ScriptParses (s : ByteArray) (hs : s.size ≤ 1048576) : ∃ k, barrowlaw24_ScriptParses.f k s = some true := by
  refine Ev.rounds ?_
  unfold barrowlaw24_ScriptParses.f
  have h1 := parse_P exT (by decide)
  rw [exParse] at h1
  refine Ev.bind h1 ?_
  refine Ev.congr (f := fun k => barrowlaw24_ScriptParses.j0 k s false) (fun k => ?_) ?_
  · dsimp only
    rw [if_pos rfl, if_pos rfl, if_pos rfl, if_pos (by decide), if_pos (by decide)]
    rfl
  · refine Ev.step (f := fun k => (script_Parse.f k s).bind fun bt413 => ((barrowref24_Parse.f k s).bind fun bt424 => (if bt413.2.2.2.2.2.2.2.2 = bt424.2.2.2.2.2.2.2.2 then (if bt413.2.2.2.2.2.2.2.1 = bt424.2.2.2.2.2.2.2.1 then ((barrowref24_Equal.f k bt413.1 bt413.2.1 bt413.2.2.1 bt413.2.2.2.1 bt413.2.2.2.2.1 bt413.2.2.2.2.2.1 bt413.2.2.2.2.2.2.1 bt424.1 bt424.2.1 bt424.2.2.1 bt424.2.2.2.1 bt424.2.2.2.2.1 bt424.2.2.2.2.2.1 bt424.2.2.2.2.2.2.1).bind fun t436 => (some t436)) else (some false)) else (some false)))) (fun k => by simp only [barrowlaw24_ScriptParses.j0]; rw [if_neg (by decide)]) ?_
    refine Ev.bind (parse_P s (by omega)) (Ev.bind (rparse_P s (by omega)) ?_)
    have hl := parsP_ops s
    generalize parsP s = r at hl
    have he := equal_ev r.1 r.2.1 r.2.2.1 r.2.2.2.1 r.2.2.2.2.1 r.2.2.2.2.2.1 r.2.2.2.2.2.2.1 (by omega)
    refine Ev.congr (fun k => by rw [if_pos rfl, if_pos rfl]) (Ev.bind he (Ev.now _))
end Go.Proofs.YtlmdhpfggobogaaDoor.Pure

namespace Go.Proofs.YtlmdhpfggobogaaDoor.Pure
open Go.Proofs.YtlmdhpfggobogaaDoor.G hiding bytesOf_length
open Go.RowKit Go.Proofs.YtlmdhpfggobogaaDoorW.PrintWords Go.Proofs.YtlmdhpfggobogaaDoorW.PrintLast
set_option linter.unusedVariables false
end Go.Proofs.YtlmdhpfggobogaaDoor.Pure
