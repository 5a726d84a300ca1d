import Derived.Test.YtlmdhpfggobogaaDoorQSk5
namespace Go.Proofs.YtlmdhpfggobogaaDoor.G
open Go.RowKit Go.Proofs.YtlmdhpfggobogaaDoorW.PrintWords Go.Proofs.YtlmdhpfggobogaaDoorW.PrintLast Go.Proofs.YtlmdhpfggobogaaDoorW.PrintMore
attribute [local go_sem] max2_int min2_int max_two min_two max_three min_three max_four min_four   -- for this text's walks alone
set_option linter.unusedVariables false
set_option linter.unusedSimpArgs false
attribute [local go_sem high] eqA23 eqA29
mutual
def barrowref24_Equal.j0 : Nat → Bool → Int → Int → Int → Int → Int → Int → List (S29) → Int → Int → Int → Int → Int → Int → List (S29) → Option (Bool)
 | 0, _, _, _, _, _, _, _, _, _, _, _, _, _, _, _ => none
 | k + 1, x19, x397000, x397001, x397002, x397003, x397004, x397005, x397006, x398000, x398001, x398002, x398003, x398004, x398005, x398006 => if x19 = true then (some false) else (barrowref24_Equal.l0 k 0 x397000 x397001 x397002 x397003 x397004 x397005 x397006 x398000 x398001 x398002 x398003 x398004 x398005 x398006)
def barrowref24_Equal.l0 : Nat → Int → Int → Int → Int → Int → Int → Int → List (S29) → Int → Int → Int → Int → Int → Int → List (S29) → Option (Bool)
 | 0, _, _, _, _, _, _, _, _, _, _, _, _, _, _, _ => none
 | k + 1, x5, x397000, x397001, x397002, x397003, x397004, x397005, x397006, x398000, x398001, x398002, x398003, x398004, x398005, x398006 => if x5 < (x397006.length : Int) then (if 0 ≤ x5 then (if x5 < (x398006.length : Int) then (if (!(((rd_T29 x397006 x5).f0) == ((rd_T29 x398006 x5).f0)) || (!(((rd_T29 x397006 x5).f1) == ((rd_T29 x398006 x5).f1)) || (!(((rd_T29 x397006 x5).f2) == ((rd_T29 x398006 x5).f2)) || (!(((rd_T29 x397006 x5).f3) == ((rd_T29 x398006 x5).f3)) || (!((((rd_T29 x397006 x5).f4).toList) == (((rd_T29 x398006 x5).f4).toList)) || (!(((rd_T29 x397006 x5).f5) == ((rd_T29 x398006 x5).f5)) || (!(((rd_T29 x397006 x5).f6) == ((rd_T29 x398006 x5).f6))))))))) = true then (some false) else (barrowref24_Equal.l0 k (wrap64 (x5 + 1)) x397000 x397001 x397002 x397003 x397004 x397005 x397006 x398000 x398001 x398002 x398003 x398004 x398005 x398006)) else (none)) else (none)) else (some true)
end
def barrowref24_Equal.f (k : Nat) (a0_0 : Int) (a0_1 : Int) (a0_2 : Int) (a0_3 : Int) (a0_4 : Int) (a0_5 : Int) (l0_6 : List (S29)) (a1_0 : Int) (a1_1 : Int) (a1_2 : Int) (a1_3 : Int) (a1_4 : Int) (a1_5 : Int) (l1_6 : List (S29)) : Option (Bool) := if (!(a0_0 == a1_0) || (!(a0_1 == a1_1) || (!(a0_2 == a1_2) || (!(a0_3 == a1_3) || (!(a0_4 == a1_4) || (!(a0_5 == a1_5))))))) = true then (barrowref24_Equal.j0 k true a0_0 a0_1 a0_2 a0_3 a0_4 a0_5 l0_6 a1_0 a1_1 a1_2 a1_3 a1_4 a1_5 l1_6) else (barrowref24_Equal.j0 k ((l0_6.length : Int) != (l1_6.length : Int)) a0_0 a0_1 a0_2 a0_3 a0_4 a0_5 l0_6 a1_0 a1_1 a1_2 a1_3 a1_4 a1_5 l1_6)
set_option maxHeartbeats 8000000 in
set_option maxRecDepth 100000 in
theorem barrowref24_Equal.calls (k : Nat) (a0_0 : Int) (a0_1 : Int) (a0_2 : Int) (a0_3 : Int) (a0_4 : Int) (a0_5 : Int) (A0_6 : Option Addr) (c0_6 : Nat) (l0_6 : List (S29)) (a1_0 : Int) (a1_1 : Int) (a1_2 : Int) (a1_3 : Int) (a1_4 : Int) (a1_5 : Int) (A1_6 : Option Addr) (c1_6 : Nat) (l1_6 : List (S29)) (r : Bool) (w : World) (hr0_6 : Kd.C k29 w A0_6 l0_6.length l0_6) (hc0_6 : l0_6.length ≤ c0_6) (hr1_6 : Kd.C k29 w A1_6 l1_6.length l1_6) (hc1_6 : l1_6.length ≤ c1_6) (h : barrowref24_Equal.f k a0_0 a0_1 a0_2 a0_3 a0_4 a0_5 l0_6 a1_0 a1_1 a1_2 a1_3 a1_4 a1_5 l1_6 = some r) :
  Calls Tryd.prog 25 #[.agg #[.int .i64 a0_0, .int .i64 a0_1, .int .i64 a0_2, .int .i64 a0_3, .int .i64 a0_4, .int .i64 a0_5, .slice A0_6 l0_6.length c0_6], .agg #[.int .i64 a1_0, .int .i64 a1_1, .int .i64 a1_2, .int .i64 a1_3, .int .i64 a1_4, .int .i64 a1_5, .slice A1_6 l1_6.length c1_6]] w fun e w' => e = .returned (.bool r) ∧ Below w.heap.size w w' := by
 have hu26 := Tryd.underlying26
 have hu23 := Tryd.underlying23
 have hu29 := Tryd.underlying29
 have HR0_6 := Aside0.mk hr0_6
 have HC0_6 := Aside0.mk hc0_6
 clear hr0_6 hc0_6
 have HR1_6 := Aside0.mk hr1_6
 have HC1_6 := Aside0.mk hc1_6
 clear hr1_6 hc1_6
 have HB := Aside0.mk (Below.refl w.heap.size w)
 have H : (if (!(a0_0 == a1_0) || (!(a0_1 == a1_1) || (!(a0_2 == a1_2) || (!(a0_3 == a1_3) || (!(a0_4 == a1_4) || (!(a0_5 == a1_5))))))) = true then (barrowref24_Equal.j0 k true a0_0 a0_1 a0_2 a0_3 a0_4 a0_5 l0_6 a1_0 a1_1 a1_2 a1_3 a1_4 a1_5 l1_6) else (barrowref24_Equal.j0 k ((l0_6.length : Int) != (l1_6.length : Int)) a0_0 a0_1 a0_2 a0_3 a0_4 a0_5 l0_6 a1_0 a1_1 a1_2 a1_3 a1_4 a1_5 l1_6)) = some r := h
 clear h
 have HC3 := Aside0.mk H
 clear H
 go_enter Tryd.func25, Tryd.ntmps25
 go_upto_region 1 with (first | ((with_reducible refine gate_dst (N := 2) rfl ?_); (try (refine gate_guard (by rfl) ?_; dsimp only)); refine box_event ?hg (N := 2) ?hd (cs := #[.int .i64 a0_0, .int .i64 a0_1, .int .i64 a0_2, .int .i64 a0_3, .int .i64 a0_4, .int .i64 a0_5, .slice A0_6 l0_6.length c0_6]) (t := 26) ?hr ?_; (case hd => rfl); (case hg => rfl); (case hr => first | (go_simp; done) | (go_simp; rfl)); intro gb396 hg w4 hbox hb; have n0_ := Aside0.mk (below_step (by repeat (first | (with_reducible first | exact HB.out | apply below_alloc | apply pw_below_drewN | apply below_drew1) | exact HB.out)) hb); have n1_ := Aside0.mk (hbox); have n2_ := Aside0.mk ((by rw [hg]; exact (below_size (by repeat (first | (with_reducible first | exact HB.out | apply below_alloc | apply pw_below_drewN | apply below_drew1) | exact HB.out))) : w.heap.size ≤ gb396)); have n3_ := Aside0.mk ((by rw [hg]; exact (below_size (by repeat (first | (with_reducible first | exact HB.out | apply below_alloc | apply pw_below_drewN | apply below_drew1) | exact HB.out))) : w.heap.size ≤ gb396)); clear HB; have HB := n0_; have BK396 := n1_; have GW396 := n2_; have GE396 := n3_; clear n0_ n1_ n2_ n3_; clear hb hbox hg) | ((with_reducible refine gate_dst (N := 3) rfl ?_); (try (refine gate_guard (by rfl) ?_; dsimp only)); refine box_event ?hg (N := 3) ?hd (cs := #[.int .i64 a1_0, .int .i64 a1_1, .int .i64 a1_2, .int .i64 a1_3, .int .i64 a1_4, .int .i64 a1_5, .slice A1_6 l1_6.length c1_6]) (t := 26) ?hr ?_; (case hd => rfl); (case hg => rfl); (case hr => first | (go_simp; done) | (go_simp; rfl)); intro gb397 hg w5 hbox hb; have n0_ := Aside0.mk (blk_below (g := gb396) (o := .cells #[.int .i64 a0_0, .int .i64 a0_1, .int .i64 a0_2, .int .i64 a0_3, .int .i64 a0_4, .int .i64 a0_5, .slice A0_6 l0_6.length c0_6] 26 (0, 0)) (by (with_reducible repeat (first | refine blk_drewN ?_ _ | refine blk_drew ?_ | refine blk_alloc ?_ _)); exact BK396.out) hb); have n1_ := Aside0.mk (below_step (by repeat (first | (with_reducible first | exact HB.out | apply below_alloc | apply pw_below_drewN | apply below_drew1 | refine below_set ?_ GE396.out) | exact HB.out)) hb); have n2_ := Aside0.mk (hbox); have n3_ := Aside0.mk ((by rw [hg]; exact (below_size (by repeat (first | (with_reducible first | exact HB.out | apply below_alloc | apply pw_below_drewN | apply below_drew1 | refine below_set ?_ GE396.out) | exact HB.out))) : w.heap.size ≤ gb397)); have n4_ := Aside0.mk ((by rw [hg]; exact (below_size (by repeat (first | (with_reducible first | exact HB.out | apply below_alloc | apply pw_below_drewN | apply below_drew1 | refine below_set ?_ GE396.out) | exact HB.out))) : w.heap.size ≤ gb397)); have n5_ := Aside0.mk ((by rw [hg]; exact Nat.ne_of_lt (blk_lt (g := gb396) (o := .cells #[.int .i64 a0_0, .int .i64 a0_1, .int .i64 a0_2, .int .i64 a0_3, .int .i64 a0_4, .int .i64 a0_5, .slice A0_6 l0_6.length c0_6] 26 (0, 0)) (by (with_reducible repeat (first | refine blk_drewN ?_ _ | refine blk_drew ?_ | refine blk_alloc ?_ _)); exact BK396.out)) : gb396 ≠ gb397)); have n6_ := Aside0.mk ((by rw [hg]; exact Nat.ne_of_gt (blk_lt (g := gb396) (o := .cells #[.int .i64 a0_0, .int .i64 a0_1, .int .i64 a0_2, .int .i64 a0_3, .int .i64 a0_4, .int .i64 a0_5, .slice A0_6 l0_6.length c0_6] 26 (0, 0)) (by (with_reducible repeat (first | refine blk_drewN ?_ _ | refine blk_drew ?_ | refine blk_alloc ?_ _)); exact BK396.out)) : gb397 ≠ gb396)); clear BK396; clear HB; have BK396 := n0_; have HB := n1_; have BK397 := n2_; have GW397 := n3_; have GE397 := n4_; have NB396_397 := n5_; have NB397_396 := n6_; clear n0_ n1_ n2_ n3_ n4_ n5_ n6_; clear hb hbox hg))
 repeat (go_quiet (first | ((with_reducible refine gate_dst (N := 2) rfl ?_); (try (refine gate_guard (by rfl) ?_; dsimp only)); refine box_event ?hg (N := 2) ?hd (cs := #[.int .i64 a0_0, .int .i64 a0_1, .int .i64 a0_2, .int .i64 a0_3, .int .i64 a0_4, .int .i64 a0_5, .slice A0_6 l0_6.length c0_6]) (t := 26) ?hr ?_; (case hd => rfl); (case hg => rfl); (case hr => first | (go_simp; done) | (go_simp; rfl)); intro gb396 hg w4 hbox hb; have n0_ := Aside0.mk (below_step (by repeat (first | (with_reducible first | exact HB.out | apply below_alloc | apply pw_below_drewN | apply below_drew1) | exact HB.out)) hb); have n1_ := Aside0.mk (hbox); have n2_ := Aside0.mk ((by rw [hg]; exact (below_size (by repeat (first | (with_reducible first | exact HB.out | apply below_alloc | apply pw_below_drewN | apply below_drew1) | exact HB.out))) : w.heap.size ≤ gb396)); have n3_ := Aside0.mk ((by rw [hg]; exact (below_size (by repeat (first | (with_reducible first | exact HB.out | apply below_alloc | apply pw_below_drewN | apply below_drew1) | exact HB.out))) : w.heap.size ≤ gb396)); clear HB; have HB := n0_; have BK396 := n1_; have GW396 := n2_; have GE396 := n3_; clear n0_ n1_ n2_ n3_; clear hb hbox hg) | ((with_reducible refine gate_dst (N := 3) rfl ?_); (try (refine gate_guard (by rfl) ?_; dsimp only)); refine box_event ?hg (N := 3) ?hd (cs := #[.int .i64 a1_0, .int .i64 a1_1, .int .i64 a1_2, .int .i64 a1_3, .int .i64 a1_4, .int .i64 a1_5, .slice A1_6 l1_6.length c1_6]) (t := 26) ?hr ?_; (case hd => rfl); (case hg => rfl); (case hr => first | (go_simp; done) | (go_simp; rfl)); intro gb397 hg w5 hbox hb; have n0_ := Aside0.mk (blk_below (g := gb396) (o := .cells #[.int .i64 a0_0, .int .i64 a0_1, .int .i64 a0_2, .int .i64 a0_3, .int .i64 a0_4, .int .i64 a0_5, .slice A0_6 l0_6.length c0_6] 26 (0, 0)) (by (with_reducible repeat (first | refine blk_drewN ?_ _ | refine blk_drew ?_ | refine blk_alloc ?_ _)); exact BK396.out) hb); have n1_ := Aside0.mk (below_step (by repeat (first | (with_reducible first | exact HB.out | apply below_alloc | apply pw_below_drewN | apply below_drew1 | refine below_set ?_ GE396.out) | exact HB.out)) hb); have n2_ := Aside0.mk (hbox); have n3_ := Aside0.mk ((by rw [hg]; exact (below_size (by repeat (first | (with_reducible first | exact HB.out | apply below_alloc | apply pw_below_drewN | apply below_drew1 | refine below_set ?_ GE396.out) | exact HB.out))) : w.heap.size ≤ gb397)); have n4_ := Aside0.mk ((by rw [hg]; exact (below_size (by repeat (first | (with_reducible first | exact HB.out | apply below_alloc | apply pw_below_drewN | apply below_drew1 | refine below_set ?_ GE396.out) | exact HB.out))) : w.heap.size ≤ gb397)); have n5_ := Aside0.mk ((by rw [hg]; exact Nat.ne_of_lt (blk_lt (g := gb396) (o := .cells #[.int .i64 a0_0, .int .i64 a0_1, .int .i64 a0_2, .int .i64 a0_3, .int .i64 a0_4, .int .i64 a0_5, .slice A0_6 l0_6.length c0_6] 26 (0, 0)) (by (with_reducible repeat (first | refine blk_drewN ?_ _ | refine blk_drew ?_ | refine blk_alloc ?_ _)); exact BK396.out)) : gb396 ≠ gb397)); have n6_ := Aside0.mk ((by rw [hg]; exact Nat.ne_of_gt (blk_lt (g := gb396) (o := .cells #[.int .i64 a0_0, .int .i64 a0_1, .int .i64 a0_2, .int .i64 a0_3, .int .i64 a0_4, .int .i64 a0_5, .slice A0_6 l0_6.length c0_6] 26 (0, 0)) (by (with_reducible repeat (first | refine blk_drewN ?_ _ | refine blk_drew ?_ | refine blk_alloc ?_ _)); exact BK396.out)) : gb397 ≠ gb396)); clear BK396; clear HB; have BK396 := n0_; have HB := n1_; have BK397 := n2_; have GW397 := n3_; have GE397 := n4_; have NB396_397 := n5_; have NB397_396 := n6_; clear n0_ n1_ n2_ n3_ n4_ n5_ n6_; clear hb hbox hg)); go_upto_region 1 with (first | ((with_reducible refine gate_dst (N := 2) rfl ?_); (try (refine gate_guard (by rfl) ?_; dsimp only)); refine box_event ?hg (N := 2) ?hd (cs := #[.int .i64 a0_0, .int .i64 a0_1, .int .i64 a0_2, .int .i64 a0_3, .int .i64 a0_4, .int .i64 a0_5, .slice A0_6 l0_6.length c0_6]) (t := 26) ?hr ?_; (case hd => rfl); (case hg => rfl); (case hr => first | (go_simp; done) | (go_simp; rfl)); intro gb396 hg w4 hbox hb; have n0_ := Aside0.mk (below_step (by repeat (first | (with_reducible first | exact HB.out | apply below_alloc | apply pw_below_drewN | apply below_drew1) | exact HB.out)) hb); have n1_ := Aside0.mk (hbox); have n2_ := Aside0.mk ((by rw [hg]; exact (below_size (by repeat (first | (with_reducible first | exact HB.out | apply below_alloc | apply pw_below_drewN | apply below_drew1) | exact HB.out))) : w.heap.size ≤ gb396)); have n3_ := Aside0.mk ((by rw [hg]; exact (below_size (by repeat (first | (with_reducible first | exact HB.out | apply below_alloc | apply pw_below_drewN | apply below_drew1) | exact HB.out))) : w.heap.size ≤ gb396)); clear HB; have HB := n0_; have BK396 := n1_; have GW396 := n2_; have GE396 := n3_; clear n0_ n1_ n2_ n3_; clear hb hbox hg) | ((with_reducible refine gate_dst (N := 3) rfl ?_); (try (refine gate_guard (by rfl) ?_; dsimp only)); refine box_event ?hg (N := 3) ?hd (cs := #[.int .i64 a1_0, .int .i64 a1_1, .int .i64 a1_2, .int .i64 a1_3, .int .i64 a1_4, .int .i64 a1_5, .slice A1_6 l1_6.length c1_6]) (t := 26) ?hr ?_; (case hd => rfl); (case hg => rfl); (case hr => first | (go_simp; done) | (go_simp; rfl)); intro gb397 hg w5 hbox hb; have n0_ := Aside0.mk (blk_below (g := gb396) (o := .cells #[.int .i64 a0_0, .int .i64 a0_1, .int .i64 a0_2, .int .i64 a0_3, .int .i64 a0_4, .int .i64 a0_5, .slice A0_6 l0_6.length c0_6] 26 (0, 0)) (by (with_reducible repeat (first | refine blk_drewN ?_ _ | refine blk_drew ?_ | refine blk_alloc ?_ _)); exact BK396.out) hb); have n1_ := Aside0.mk (below_step (by repeat (first | (with_reducible first | exact HB.out | apply below_alloc | apply pw_below_drewN | apply below_drew1 | refine below_set ?_ GE396.out) | exact HB.out)) hb); have n2_ := Aside0.mk (hbox); have n3_ := Aside0.mk ((by rw [hg]; exact (below_size (by repeat (first | (with_reducible first | exact HB.out | apply below_alloc | apply pw_below_drewN | apply below_drew1 | refine below_set ?_ GE396.out) | exact HB.out))) : w.heap.size ≤ gb397)); have n4_ := Aside0.mk ((by rw [hg]; exact (below_size (by repeat (first | (with_reducible first | exact HB.out | apply below_alloc | apply pw_below_drewN | apply below_drew1 | refine below_set ?_ GE396.out) | exact HB.out))) : w.heap.size ≤ gb397)); have n5_ := Aside0.mk ((by rw [hg]; exact Nat.ne_of_lt (blk_lt (g := gb396) (o := .cells #[.int .i64 a0_0, .int .i64 a0_1, .int .i64 a0_2, .int .i64 a0_3, .int .i64 a0_4, .int .i64 a0_5, .slice A0_6 l0_6.length c0_6] 26 (0, 0)) (by (with_reducible repeat (first | refine blk_drewN ?_ _ | refine blk_drew ?_ | refine blk_alloc ?_ _)); exact BK396.out)) : gb396 ≠ gb397)); have n6_ := Aside0.mk ((by rw [hg]; exact Nat.ne_of_gt (blk_lt (g := gb396) (o := .cells #[.int .i64 a0_0, .int .i64 a0_1, .int .i64 a0_2, .int .i64 a0_3, .int .i64 a0_4, .int .i64 a0_5, .slice A0_6 l0_6.length c0_6] 26 (0, 0)) (by (with_reducible repeat (first | refine blk_drewN ?_ _ | refine blk_drew ?_ | refine blk_alloc ?_ _)); exact BK396.out)) : gb397 ≠ gb396)); clear BK396; clear HB; have BK396 := n0_; have HB := n1_; have BK397 := n2_; have GW397 := n3_; have GE397 := n4_; have NB396_397 := n5_; have NB397_396 := n6_; clear n0_ n1_ n2_ n3_ n4_ n5_ n6_; clear hb hbox hg)))
 (try simp only [Act.put, List.setIfInBounds_toArray, List.set_cons_zero, List.set_cons_succ])
 go_cut [19] (fun v19 wc => ∃ (kq : Nat) (x19_2 : Bool), v19 = .bool x19_2 ∧ Aside0 (barrowref24_Equal.j0 kq x19_2 a0_0 a0_1 a0_2 a0_3 a0_4 a0_5 l0_6 a1_0 a1_1 a1_2 a1_3 a1_4 a1_5 l1_6 = some r) ∧ Aside0 (kq ≤ k) ∧ Aside0 (wc.heap[gb396]? = some (.cells #[.int .i64 a0_0, .int .i64 a0_1, .int .i64 a0_2, .int .i64 a0_3, .int .i64 a0_4, .int .i64 a0_5, (.slice A0_6 l0_6.length c0_6)] 26 (0, 0))) ∧ Aside0 (wc.heap[gb397]? = some (.cells #[.int .i64 a1_0, .int .i64 a1_1, .int .i64 a1_2, .int .i64 a1_3, .int .i64 a1_4, .int .i64 a1_5, (.slice A1_6 l1_6.length c1_6)] 26 (0, 0))) ∧ Aside0 (Below w.heap.size w wc))
 case first =>
  have H := HC3.out
  clear HC3
  by_cases c6 : (!(a0_0 == a1_0) || (!(a0_1 == a1_1) || (!(a0_2 == a1_2) || (!(a0_3 == a1_3) || (!(a0_4 == a1_4) || (!(a0_5 == a1_5))))))) = true
  ·rw [if_pos c6] at H
   have c6b0 : (!(a0_0 == a1_0) || (!(a0_1 == a1_1) || (!(a0_2 == a1_2) || (!(a0_3 == a1_3) || (!(a0_4 == a1_4) || (!(a0_5 == a1_5))))))) = true := c6
   clear c6
   (first | rw [c6b0] | (simp only [i64_w, i32_w]; rw [c6b0]) | skip)
   have H' := Aside0.mk H
   clear H
   have hnb7 := NB396_397.out
   have hnc7 := NB397_396.out
   have hcz8_0 : w5.cell? ⟨gb396, 0, none⟩ = some (.int .i64 a0_0) := (blk_cell BK396.out 0).trans rfl
   have hcz8_1 : w5.cell? ⟨gb396, 1, none⟩ = some (.int .i64 a0_1) := (blk_cell BK396.out 1).trans rfl
   have hcz8_2 : w5.cell? ⟨gb396, 2, none⟩ = some (.int .i64 a0_2) := (blk_cell BK396.out 2).trans rfl
   have hcz8_3 : w5.cell? ⟨gb396, 3, none⟩ = some (.int .i64 a0_3) := (blk_cell BK396.out 3).trans rfl
   have hcz8_4 : w5.cell? ⟨gb396, 4, none⟩ = some (.int .i64 a0_4) := (blk_cell BK396.out 4).trans rfl
   have hcz8_5 : w5.cell? ⟨gb396, 5, none⟩ = some (.int .i64 a0_5) := (blk_cell BK396.out 5).trans rfl
   have hcz8_6 : w5.cell? ⟨gb396, 6, none⟩ = some (.slice A0_6 l0_6.length c0_6) := (blk_cell BK396.out 6).trans rfl
   have hfz8_0 := blk_frozen BK396.out 0
   have hfz8_1 := blk_frozen BK396.out 1
   have hfz8_2 := blk_frozen BK396.out 2
   have hfz8_3 := blk_frozen BK396.out 3
   have hfz8_4 := blk_frozen BK396.out 4
   have hfz8_5 := blk_frozen BK396.out 5
   have hfz8_6 := blk_frozen BK396.out 6
   have hcz9_0 : w5.cell? ⟨gb397, 0, none⟩ = some (.int .i64 a1_0) := (blk_cell BK397.out 0).trans rfl
   have hcz9_1 : w5.cell? ⟨gb397, 1, none⟩ = some (.int .i64 a1_1) := (blk_cell BK397.out 1).trans rfl
   have hcz9_2 : w5.cell? ⟨gb397, 2, none⟩ = some (.int .i64 a1_2) := (blk_cell BK397.out 2).trans rfl
   have hcz9_3 : w5.cell? ⟨gb397, 3, none⟩ = some (.int .i64 a1_3) := (blk_cell BK397.out 3).trans rfl
   have hcz9_4 : w5.cell? ⟨gb397, 4, none⟩ = some (.int .i64 a1_4) := (blk_cell BK397.out 4).trans rfl
   have hcz9_5 : w5.cell? ⟨gb397, 5, none⟩ = some (.int .i64 a1_5) := (blk_cell BK397.out 5).trans rfl
   have hcz9_6 : w5.cell? ⟨gb397, 6, none⟩ = some (.slice A1_6 l1_6.length c1_6) := (blk_cell BK397.out 6).trans rfl
   have hfz9_0 := blk_frozen BK397.out 0
   have hfz9_1 := blk_frozen BK397.out 1
   have hfz9_2 := blk_frozen BK397.out 2
   have hfz9_3 := blk_frozen BK397.out 3
   have hfz9_4 := blk_frozen BK397.out 4
   have hfz9_5 := blk_frozen BK397.out 5
   have hfz9_6 := blk_frozen BK397.out 6
   go_wp2
   repeat (go_quiet (fail); try go_wp2)
   go_meet
   case rel => exact ⟨_, (true), (by first | rfl | (simp; done) | (simp [*]; done)), H', ⟨by first | omega | exact Nat.le_refl _⟩, ⟨by (with_reducible repeat (first | refine blk_drewN ?_ _ | refine blk_drew ?_ | refine blk_alloc ?_ _)); exact BK396.out⟩, ⟨by (with_reducible repeat (first | refine blk_drewN ?_ _ | refine blk_drew ?_ | refine blk_alloc ?_ _)); exact BK397.out⟩, ⟨by repeat (first | (with_reducible first | exact HB.out | apply below_alloc | apply pw_below_drewN | apply below_drew1 | refine below_set ?_ GE396.out | refine below_set ?_ GE397.out) | exact HB.out)⟩⟩
  ·rw [if_neg c6] at H
   have c6b0 : (!(a0_0 == a1_0) || (!(a0_1 == a1_1) || (!(a0_2 == a1_2) || (!(a0_3 == a1_3) || (!(a0_4 == a1_4) || (!(a0_5 == a1_5))))))) = false := by simpa using c6
   clear c6
   (first | rw [c6b0] | (simp only [i64_w, i32_w]; rw [c6b0]) | skip)
   have H' := Aside0.mk H
   clear H
   have hnb10 := NB396_397.out
   have hnc10 := NB397_396.out
   have hcz11_0 : w5.cell? ⟨gb396, 0, none⟩ = some (.int .i64 a0_0) := (blk_cell BK396.out 0).trans rfl
   have hcz11_1 : w5.cell? ⟨gb396, 1, none⟩ = some (.int .i64 a0_1) := (blk_cell BK396.out 1).trans rfl
   have hcz11_2 : w5.cell? ⟨gb396, 2, none⟩ = some (.int .i64 a0_2) := (blk_cell BK396.out 2).trans rfl
   have hcz11_3 : w5.cell? ⟨gb396, 3, none⟩ = some (.int .i64 a0_3) := (blk_cell BK396.out 3).trans rfl
   have hcz11_4 : w5.cell? ⟨gb396, 4, none⟩ = some (.int .i64 a0_4) := (blk_cell BK396.out 4).trans rfl
   have hcz11_5 : w5.cell? ⟨gb396, 5, none⟩ = some (.int .i64 a0_5) := (blk_cell BK396.out 5).trans rfl
   have hcz11_6 : w5.cell? ⟨gb396, 6, none⟩ = some (.slice A0_6 l0_6.length c0_6) := (blk_cell BK396.out 6).trans rfl
   have hfz11_0 := blk_frozen BK396.out 0
   have hfz11_1 := blk_frozen BK396.out 1
   have hfz11_2 := blk_frozen BK396.out 2
   have hfz11_3 := blk_frozen BK396.out 3
   have hfz11_4 := blk_frozen BK396.out 4
   have hfz11_5 := blk_frozen BK396.out 5
   have hfz11_6 := blk_frozen BK396.out 6
   have hcz12_0 : w5.cell? ⟨gb397, 0, none⟩ = some (.int .i64 a1_0) := (blk_cell BK397.out 0).trans rfl
   have hcz12_1 : w5.cell? ⟨gb397, 1, none⟩ = some (.int .i64 a1_1) := (blk_cell BK397.out 1).trans rfl
   have hcz12_2 : w5.cell? ⟨gb397, 2, none⟩ = some (.int .i64 a1_2) := (blk_cell BK397.out 2).trans rfl
   have hcz12_3 : w5.cell? ⟨gb397, 3, none⟩ = some (.int .i64 a1_3) := (blk_cell BK397.out 3).trans rfl
   have hcz12_4 : w5.cell? ⟨gb397, 4, none⟩ = some (.int .i64 a1_4) := (blk_cell BK397.out 4).trans rfl
   have hcz12_5 : w5.cell? ⟨gb397, 5, none⟩ = some (.int .i64 a1_5) := (blk_cell BK397.out 5).trans rfl
   have hcz12_6 : w5.cell? ⟨gb397, 6, none⟩ = some (.slice A1_6 l1_6.length c1_6) := (blk_cell BK397.out 6).trans rfl
   have hfz12_0 := blk_frozen BK397.out 0
   have hfz12_1 := blk_frozen BK397.out 1
   have hfz12_2 := blk_frozen BK397.out 2
   have hfz12_3 := blk_frozen BK397.out 3
   have hfz12_4 := blk_frozen BK397.out 4
   have hfz12_5 := blk_frozen BK397.out 5
   have hfz12_6 := blk_frozen BK397.out 6
   go_wp2
   repeat (go_quiet (fail); try go_wp2)
   go_meet
   case rel => exact ⟨_, (((l0_6.length : Int) != (l1_6.length : Int))), (by first | rfl | (simp; done) | (simp [*]; done)), H', ⟨by first | omega | exact Nat.le_refl _⟩, ⟨by (with_reducible repeat (first | refine blk_drewN ?_ _ | refine blk_drew ?_ | refine blk_alloc ?_ _)); exact BK396.out⟩, ⟨by (with_reducible repeat (first | refine blk_drewN ?_ _ | refine blk_drew ?_ | refine blk_alloc ?_ _)); exact BK397.out⟩, ⟨by repeat (first | (with_reducible first | exact HB.out | apply below_alloc | apply pw_below_drewN | apply below_drew1 | refine below_set ?_ GE396.out | refine below_set ?_ GE397.out) | exact HB.out)⟩⟩
 case rest =>
  clear HC3
  try clear c1
  try clear c2
  try clear p2
  try clear c6
  try clear c6b0
  try clear c7
  try clear c10
  try clear hcz11_0
  try clear hcz11_1
  try clear hcz11_2
  try clear hcz11_3
  try clear hcz11_4
  try clear hcz11_5
  try clear hcz11_6
  try clear hcz12_0
  try clear hcz12_1
  try clear hcz12_2
  try clear hcz12_3
  try clear hcz12_4
  try clear hcz12_5
  try clear hcz12_6
  try clear hcz8_0
  try clear hcz8_1
  try clear hcz8_2
  try clear hcz8_3
  try clear hcz8_4
  try clear hcz8_5
  try clear hcz8_6
  try clear hcz9_0
  try clear hcz9_1
  try clear hcz9_2
  try clear hcz9_3
  try clear hcz9_4
  try clear hcz9_5
  try clear hcz9_6
  try clear hfz11_0
  try clear hfz11_1
  try clear hfz11_2
  try clear hfz11_3
  try clear hfz11_4
  try clear hfz11_5
  try clear hfz11_6
  try clear hfz12_0
  try clear hfz12_1
  try clear hfz12_2
  try clear hfz12_3
  try clear hfz12_4
  try clear hfz12_5
  try clear hfz12_6
  try clear hfz8_0
  try clear hfz8_1
  try clear hfz8_2
  try clear hfz8_3
  try clear hfz8_4
  try clear hfz8_5
  try clear hfz8_6
  try clear hfz9_0
  try clear hfz9_1
  try clear hfz9_2
  try clear hfz9_3
  try clear hfz9_4
  try clear hfz9_5
  try clear hfz9_6
  obtain ⟨kq, x19_2, rfl, HA, HJ2, BK396, BK397, HB⟩ := hcut
  cases kq with
  | zero => exact absurd HA.out (by simp [barrowref24_Equal.j0])
  | succ kj2 =>
   have H := HA.out
   clear HA
   simp only [barrowref24_Equal.j0] at H
   by_cases c13 : x19_2 = true
   ·subst c13
    have H1 : (some false) = some r := by rw [if_pos rfl] at H; exact H
    clear H
    have H := H1
    clear H1
    obtain rfl := Option.some.inj H
    go_wp2
    repeat (go_quiet (fail); try go_wp2)
    go_ret
    exact ⟨by first | rfl | (simp [errW_none, errW_some] <;> rfl) | (simp [*, errW_none, errW_some] <;> rfl), by repeat (first | (with_reducible first | exact HB.out | apply below_alloc | apply pw_below_drewN | apply below_drew1 | refine below_set ?_ GE396.out | refine below_set ?_ GE397.out) | exact HB.out)⟩
   ·replace c13 := Bool.eq_false_iff.mpr c13
    subst c13
    have H1 : (barrowref24_Equal.l0 kj2 0 a0_0 a0_1 a0_2 a0_3 a0_4 a0_5 l0_6 a1_0 a1_1 a1_2 a1_3 a1_4 a1_5 l1_6) = some r := by rw [if_neg (show ¬ (false = true) by decide)] at H; exact H
    clear H
    have H := H1
    clear H1
    have H' := Aside0.mk H
    clear H
    go_wp2
    repeat (go_quiet (fail); try go_wp2)
    go_loopg [5] kj2 (fun kq v5 w' => ∃ (x5_2 : Int), v5 = .int .i64 x5_2 ∧ Aside0 (barrowref24_Equal.l0 kq x5_2 a0_0 a0_1 a0_2 a0_3 a0_4 a0_5 l0_6 a1_0 a1_1 a1_2 a1_3 a1_4 a1_5 l1_6 = some r) ∧ Aside0 (kq ≤ kj2) ∧ Aside0 (w'.heap[gb396]? = some (.cells #[.int .i64 a0_0, .int .i64 a0_1, .int .i64 a0_2, .int .i64 a0_3, .int .i64 a0_4, .int .i64 a0_5, (.slice A0_6 l0_6.length c0_6)] 26 (0, 0))) ∧ Aside0 (w'.heap[gb397]? = some (.cells #[.int .i64 a1_0, .int .i64 a1_1, .int .i64 a1_2, .int .i64 a1_3, .int .i64 a1_4, .int .i64 a1_5, (.slice A1_6 l1_6.length c1_6)] 26 (0, 0))) ∧ Aside0 (Below w.heap.size w w'))
    case atStart => exact ⟨(0), (by first | rfl | (simp; done) | (simp [*]; done)), H', ⟨Nat.le_refl _⟩, ⟨by (with_reducible repeat (first | refine blk_drewN ?_ _ | refine blk_drew ?_ | refine blk_alloc ?_ _)); exact BK396.out⟩, ⟨by (with_reducible repeat (first | refine blk_drewN ?_ _ | refine blk_drew ?_ | refine blk_alloc ?_ _)); exact BK397.out⟩, ⟨by repeat (first | (with_reducible first | exact HB.out | apply below_alloc | apply pw_below_drewN | apply below_drew1 | refine below_set ?_ GE396.out | refine below_set ?_ GE397.out) | exact HB.out)⟩⟩
    case round =>
     clear H'
     try clear c1
     try clear c2
     try clear p2
     try clear c6
     try clear c6b0
     try clear c7
     try clear c10
     try clear c13
     try clear hcz11_0
     try clear hcz11_1
     try clear hcz11_2
     try clear hcz11_3
     try clear hcz11_4
     try clear hcz11_5
     try clear hcz11_6
     try clear hcz12_0
     try clear hcz12_1
     try clear hcz12_2
     try clear hcz12_3
     try clear hcz12_4
     try clear hcz12_5
     try clear hcz12_6
     try clear hcz8_0
     try clear hcz8_1
     try clear hcz8_2
     try clear hcz8_3
     try clear hcz8_4
     try clear hcz8_5
     try clear hcz8_6
     try clear hcz9_0
     try clear hcz9_1
     try clear hcz9_2
     try clear hcz9_3
     try clear hcz9_4
     try clear hcz9_5
     try clear hcz9_6
     try clear hfz11_0
     try clear hfz11_1
     try clear hfz11_2
     try clear hfz11_3
     try clear hfz11_4
     try clear hfz11_5
     try clear hfz11_6
     try clear hfz12_0
     try clear hfz12_1
     try clear hfz12_2
     try clear hfz12_3
     try clear hfz12_4
     try clear hfz12_5
     try clear hfz12_6
     try clear hfz8_0
     try clear hfz8_1
     try clear hfz8_2
     try clear hfz8_3
     try clear hfz8_4
     try clear hfz8_5
     try clear hfz8_6
     try clear hfz9_0
     try clear hfz9_1
     try clear hfz9_2
     try clear hfz9_3
     try clear hfz9_4
     try clear hfz9_5
     try clear hfz9_6
     try clear p2
     obtain ⟨x5_2, rfl, HA, HK2, BK396, BK397, HB⟩ := hrel
     cases gk with
     | zero => exact absurd HA.out (by simp [barrowref24_Equal.l0])
     | succ k2 =>
      have H := HA.out
      clear HA
      simp only [barrowref24_Equal.l0] at H
      by_cases c14 : x5_2 < (l0_6.length : Int)
      ·rw [if_pos c14] at H
       have c14b0 : decide (x5_2 < (l0_6.length : Int)) = true := decide_eq_true c14
       clear c14
       by_cases c15 : 0 ≤ x5_2
       ·rw [if_pos c15] at H
        have c15b0 : decide (0 ≤ x5_2) = true := decide_eq_true c15
        clear c15
        by_cases c16 : x5_2 < (l1_6.length : Int)
        ·rw [if_pos c16] at H
         have c16b0 : decide (x5_2 < (l1_6.length : Int)) = true := decide_eq_true c16
         clear c16
         by_cases c17 : (!(((rd_T29 l0_6 x5_2).f0) == ((rd_T29 l1_6 x5_2).f0)) || (!(((rd_T29 l0_6 x5_2).f1) == ((rd_T29 l1_6 x5_2).f1)) || (!(((rd_T29 l0_6 x5_2).f2) == ((rd_T29 l1_6 x5_2).f2)) || (!(((rd_T29 l0_6 x5_2).f3) == ((rd_T29 l1_6 x5_2).f3)) || (!((((rd_T29 l0_6 x5_2).f4).toList) == (((rd_T29 l1_6 x5_2).f4).toList)) || (!(((rd_T29 l0_6 x5_2).f5) == ((rd_T29 l1_6 x5_2).f5)) || (!(((rd_T29 l0_6 x5_2).f6) == ((rd_T29 l1_6 x5_2).f6))))))))) = true
         ·rw [if_pos c17] at H
          have c17b0 : (!(((rd_T29 l0_6 x5_2).f0) == ((rd_T29 l1_6 x5_2).f0)) || (!(((rd_T29 l0_6 x5_2).f1) == ((rd_T29 l1_6 x5_2).f1)) || (!(((rd_T29 l0_6 x5_2).f2) == ((rd_T29 l1_6 x5_2).f2)) || (!(((rd_T29 l0_6 x5_2).f3) == ((rd_T29 l1_6 x5_2).f3)) || (!((((rd_T29 l0_6 x5_2).f4).toList) == (((rd_T29 l1_6 x5_2).f4).toList)) || (!(((rd_T29 l0_6 x5_2).f5) == ((rd_T29 l1_6 x5_2).f5)) || (!(((rd_T29 l0_6 x5_2).f6) == ((rd_T29 l1_6 x5_2).f6))))))))) = true := c17
          clear c17
          obtain rfl := Option.some.inj H
          have hnb18 := NB396_397.out
          have hnc18 := NB397_396.out
          have hcz19_0 : wr.cell? ⟨gb396, 0, none⟩ = some (.int .i64 a0_0) := (blk_cell BK396.out 0).trans rfl
          have hcz19_1 : wr.cell? ⟨gb396, 1, none⟩ = some (.int .i64 a0_1) := (blk_cell BK396.out 1).trans rfl
          have hcz19_2 : wr.cell? ⟨gb396, 2, none⟩ = some (.int .i64 a0_2) := (blk_cell BK396.out 2).trans rfl
          have hcz19_3 : wr.cell? ⟨gb396, 3, none⟩ = some (.int .i64 a0_3) := (blk_cell BK396.out 3).trans rfl
          have hcz19_4 : wr.cell? ⟨gb396, 4, none⟩ = some (.int .i64 a0_4) := (blk_cell BK396.out 4).trans rfl
          have hcz19_5 : wr.cell? ⟨gb396, 5, none⟩ = some (.int .i64 a0_5) := (blk_cell BK396.out 5).trans rfl
          have hcz19_6 : wr.cell? ⟨gb396, 6, none⟩ = some (.slice A0_6 l0_6.length c0_6) := (blk_cell BK396.out 6).trans rfl
          have hfz19_0 := blk_frozen BK396.out 0
          have hfz19_1 := blk_frozen BK396.out 1
          have hfz19_2 := blk_frozen BK396.out 2
          have hfz19_3 := blk_frozen BK396.out 3
          have hfz19_4 := blk_frozen BK396.out 4
          have hfz19_5 := blk_frozen BK396.out 5
          have hfz19_6 := blk_frozen BK396.out 6
          have p398 : 0 ≤ (x5_2 : Int) := of_decide_eq_true (by first | (with_reducible assumption) | assumption)
          have q398 : x5_2 < (l0_6.length : Int) := of_decide_eq_true (by first | (with_reducible assumption) | assumption)
          obtain ⟨ad398, e398, hx398_0, hx398_1, hx398_2, hx398_3, hx398_4, hx398_5, hx398_6⟩ := at_T29 HR0_6.out x5_2 p398 q398
          cases e398
          replace hx398_0 := (HB.out.cell (World.block_lt_of_cell? w _ hx398_0)).trans hx398_0
          replace hx398_1 := (HB.out.cell (World.block_lt_of_cell? w _ hx398_1)).trans hx398_1
          replace hx398_2 := (HB.out.cell (World.block_lt_of_cell? w _ hx398_2)).trans hx398_2
          replace hx398_3 := (HB.out.cell (World.block_lt_of_cell? w _ hx398_3)).trans hx398_3
          replace hx398_4 := (HB.out.cell (World.block_lt_of_cell? w _ hx398_4)).trans hx398_4
          replace hx398_5 := (HB.out.cell (World.block_lt_of_cell? w _ hx398_5)).trans hx398_5
          replace hx398_6 := (HB.out.cell (World.block_lt_of_cell? w _ hx398_6)).trans hx398_6
          replace p398 := eq_true p398
          replace q398 := eq_true q398
          have hcz20_0 : wr.cell? ⟨gb397, 0, none⟩ = some (.int .i64 a1_0) := (blk_cell BK397.out 0).trans rfl
          have hcz20_1 : wr.cell? ⟨gb397, 1, none⟩ = some (.int .i64 a1_1) := (blk_cell BK397.out 1).trans rfl
          have hcz20_2 : wr.cell? ⟨gb397, 2, none⟩ = some (.int .i64 a1_2) := (blk_cell BK397.out 2).trans rfl
          have hcz20_3 : wr.cell? ⟨gb397, 3, none⟩ = some (.int .i64 a1_3) := (blk_cell BK397.out 3).trans rfl
          have hcz20_4 : wr.cell? ⟨gb397, 4, none⟩ = some (.int .i64 a1_4) := (blk_cell BK397.out 4).trans rfl
          have hcz20_5 : wr.cell? ⟨gb397, 5, none⟩ = some (.int .i64 a1_5) := (blk_cell BK397.out 5).trans rfl
          have hcz20_6 : wr.cell? ⟨gb397, 6, none⟩ = some (.slice A1_6 l1_6.length c1_6) := (blk_cell BK397.out 6).trans rfl
          have hfz20_0 := blk_frozen BK397.out 0
          have hfz20_1 := blk_frozen BK397.out 1
          have hfz20_2 := blk_frozen BK397.out 2
          have hfz20_3 := blk_frozen BK397.out 3
          have hfz20_4 := blk_frozen BK397.out 4
          have hfz20_5 := blk_frozen BK397.out 5
          have hfz20_6 := blk_frozen BK397.out 6
          have p399 : 0 ≤ (x5_2 : Int) := of_decide_eq_true (by first | (with_reducible assumption) | assumption)
          have q399 : x5_2 < (l1_6.length : Int) := of_decide_eq_true (by first | (with_reducible assumption) | assumption)
          obtain ⟨ad399, e399, hx399_0, hx399_1, hx399_2, hx399_3, hx399_4, hx399_5, hx399_6⟩ := at_T29 HR1_6.out x5_2 p399 q399
          cases e399
          replace hx399_0 := (HB.out.cell (World.block_lt_of_cell? w _ hx399_0)).trans hx399_0
          replace hx399_1 := (HB.out.cell (World.block_lt_of_cell? w _ hx399_1)).trans hx399_1
          replace hx399_2 := (HB.out.cell (World.block_lt_of_cell? w _ hx399_2)).trans hx399_2
          replace hx399_3 := (HB.out.cell (World.block_lt_of_cell? w _ hx399_3)).trans hx399_3
          replace hx399_4 := (HB.out.cell (World.block_lt_of_cell? w _ hx399_4)).trans hx399_4
          replace hx399_5 := (HB.out.cell (World.block_lt_of_cell? w _ hx399_5)).trans hx399_5
          replace hx399_6 := (HB.out.cell (World.block_lt_of_cell? w _ hx399_6)).trans hx399_6
          replace p399 := eq_true p399
          replace q399 := eq_true q399
          go_wp2
          repeat (go_quiet (fail); try go_wp2)
          go_ret
          exact ⟨by first | rfl | (simp [errW_none, errW_some] <;> rfl) | (simp [*, errW_none, errW_some] <;> rfl), by repeat (first | (with_reducible first | exact HB.out | apply below_alloc | apply pw_below_drewN | apply below_drew1 | refine below_set ?_ GE396.out | refine below_set ?_ GE397.out) | exact HB.out)⟩
         ·rw [if_neg c17] at H
          have c17b0 : (!(((rd_T29 l0_6 x5_2).f0) == ((rd_T29 l1_6 x5_2).f0)) || (!(((rd_T29 l0_6 x5_2).f1) == ((rd_T29 l1_6 x5_2).f1)) || (!(((rd_T29 l0_6 x5_2).f2) == ((rd_T29 l1_6 x5_2).f2)) || (!(((rd_T29 l0_6 x5_2).f3) == ((rd_T29 l1_6 x5_2).f3)) || (!((((rd_T29 l0_6 x5_2).f4).toList) == (((rd_T29 l1_6 x5_2).f4).toList)) || (!(((rd_T29 l0_6 x5_2).f5) == ((rd_T29 l1_6 x5_2).f5)) || (!(((rd_T29 l0_6 x5_2).f6) == ((rd_T29 l1_6 x5_2).f6))))))))) = false := by simpa using c17
          clear c17
          have H' := Aside0.mk H
          clear H
          have hnb21 := NB396_397.out
          have hnc21 := NB397_396.out
          have hcz22_0 : wr.cell? ⟨gb396, 0, none⟩ = some (.int .i64 a0_0) := (blk_cell BK396.out 0).trans rfl
          have hcz22_1 : wr.cell? ⟨gb396, 1, none⟩ = some (.int .i64 a0_1) := (blk_cell BK396.out 1).trans rfl
          have hcz22_2 : wr.cell? ⟨gb396, 2, none⟩ = some (.int .i64 a0_2) := (blk_cell BK396.out 2).trans rfl
          have hcz22_3 : wr.cell? ⟨gb396, 3, none⟩ = some (.int .i64 a0_3) := (blk_cell BK396.out 3).trans rfl
          have hcz22_4 : wr.cell? ⟨gb396, 4, none⟩ = some (.int .i64 a0_4) := (blk_cell BK396.out 4).trans rfl
          have hcz22_5 : wr.cell? ⟨gb396, 5, none⟩ = some (.int .i64 a0_5) := (blk_cell BK396.out 5).trans rfl
          have hcz22_6 : wr.cell? ⟨gb396, 6, none⟩ = some (.slice A0_6 l0_6.length c0_6) := (blk_cell BK396.out 6).trans rfl
          have hfz22_0 := blk_frozen BK396.out 0
          have hfz22_1 := blk_frozen BK396.out 1
          have hfz22_2 := blk_frozen BK396.out 2
          have hfz22_3 := blk_frozen BK396.out 3
          have hfz22_4 := blk_frozen BK396.out 4
          have hfz22_5 := blk_frozen BK396.out 5
          have hfz22_6 := blk_frozen BK396.out 6
          have p398 : 0 ≤ (x5_2 : Int) := of_decide_eq_true (by first | (with_reducible assumption) | assumption)
          have q398 : x5_2 < (l0_6.length : Int) := of_decide_eq_true (by first | (with_reducible assumption) | assumption)
          obtain ⟨ad398, e398, hx398_0, hx398_1, hx398_2, hx398_3, hx398_4, hx398_5, hx398_6⟩ := at_T29 HR0_6.out x5_2 p398 q398
          cases e398
          replace hx398_0 := (HB.out.cell (World.block_lt_of_cell? w _ hx398_0)).trans hx398_0
          replace hx398_1 := (HB.out.cell (World.block_lt_of_cell? w _ hx398_1)).trans hx398_1
          replace hx398_2 := (HB.out.cell (World.block_lt_of_cell? w _ hx398_2)).trans hx398_2
          replace hx398_3 := (HB.out.cell (World.block_lt_of_cell? w _ hx398_3)).trans hx398_3
          replace hx398_4 := (HB.out.cell (World.block_lt_of_cell? w _ hx398_4)).trans hx398_4
          replace hx398_5 := (HB.out.cell (World.block_lt_of_cell? w _ hx398_5)).trans hx398_5
          replace hx398_6 := (HB.out.cell (World.block_lt_of_cell? w _ hx398_6)).trans hx398_6
          replace p398 := eq_true p398
          replace q398 := eq_true q398
          have hcz23_0 : wr.cell? ⟨gb397, 0, none⟩ = some (.int .i64 a1_0) := (blk_cell BK397.out 0).trans rfl
          have hcz23_1 : wr.cell? ⟨gb397, 1, none⟩ = some (.int .i64 a1_1) := (blk_cell BK397.out 1).trans rfl
          have hcz23_2 : wr.cell? ⟨gb397, 2, none⟩ = some (.int .i64 a1_2) := (blk_cell BK397.out 2).trans rfl
          have hcz23_3 : wr.cell? ⟨gb397, 3, none⟩ = some (.int .i64 a1_3) := (blk_cell BK397.out 3).trans rfl
          have hcz23_4 : wr.cell? ⟨gb397, 4, none⟩ = some (.int .i64 a1_4) := (blk_cell BK397.out 4).trans rfl
          have hcz23_5 : wr.cell? ⟨gb397, 5, none⟩ = some (.int .i64 a1_5) := (blk_cell BK397.out 5).trans rfl
          have hcz23_6 : wr.cell? ⟨gb397, 6, none⟩ = some (.slice A1_6 l1_6.length c1_6) := (blk_cell BK397.out 6).trans rfl
          have hfz23_0 := blk_frozen BK397.out 0
          have hfz23_1 := blk_frozen BK397.out 1
          have hfz23_2 := blk_frozen BK397.out 2
          have hfz23_3 := blk_frozen BK397.out 3
          have hfz23_4 := blk_frozen BK397.out 4
          have hfz23_5 := blk_frozen BK397.out 5
          have hfz23_6 := blk_frozen BK397.out 6
          have p399 : 0 ≤ (x5_2 : Int) := of_decide_eq_true (by first | (with_reducible assumption) | assumption)
          have q399 : x5_2 < (l1_6.length : Int) := of_decide_eq_true (by first | (with_reducible assumption) | assumption)
          obtain ⟨ad399, e399, hx399_0, hx399_1, hx399_2, hx399_3, hx399_4, hx399_5, hx399_6⟩ := at_T29 HR1_6.out x5_2 p399 q399
          cases e399
          replace hx399_0 := (HB.out.cell (World.block_lt_of_cell? w _ hx399_0)).trans hx399_0
          replace hx399_1 := (HB.out.cell (World.block_lt_of_cell? w _ hx399_1)).trans hx399_1
          replace hx399_2 := (HB.out.cell (World.block_lt_of_cell? w _ hx399_2)).trans hx399_2
          replace hx399_3 := (HB.out.cell (World.block_lt_of_cell? w _ hx399_3)).trans hx399_3
          replace hx399_4 := (HB.out.cell (World.block_lt_of_cell? w _ hx399_4)).trans hx399_4
          replace hx399_5 := (HB.out.cell (World.block_lt_of_cell? w _ hx399_5)).trans hx399_5
          replace hx399_6 := (HB.out.cell (World.block_lt_of_cell? w _ hx399_6)).trans hx399_6
          replace p399 := eq_true p399
          replace q399 := eq_true q399
          go_wp2
          repeat (go_quiet (fail); try go_wp2)
          go_roundg k2
          case measure => have := HJ2.out; have := HK2.out; omega
          case rel => exact ⟨(wrap64 (x5_2 + 1)), (by first | rfl | (simp; done) | (simp [*]; done)), H', ⟨by have := HJ2.out; have := HK2.out; omega⟩, ⟨by (with_reducible repeat (first | refine blk_drewN ?_ _ | refine blk_drew ?_ | refine blk_alloc ?_ _)); exact BK396.out⟩, ⟨by (with_reducible repeat (first | refine blk_drewN ?_ _ | refine blk_drew ?_ | refine blk_alloc ?_ _)); exact BK397.out⟩, ⟨by repeat (first | (with_reducible first | exact HB.out | apply below_alloc | apply pw_below_drewN | apply below_drew1 | refine below_set ?_ GE396.out | refine below_set ?_ GE397.out) | exact HB.out)⟩⟩
        ·rw [if_neg c16] at H
         exact absurd H (by simp)
       ·rw [if_neg c15] at H
        exact absurd H (by simp)
      ·rw [if_neg c14] at H
       have c14b0 : decide (x5_2 < (l0_6.length : Int)) = false := decide_eq_false c14
       clear c14
       obtain rfl := Option.some.inj H
       have hnb24 := NB396_397.out
       have hnc24 := NB397_396.out
       have hcz25_0 : wr.cell? ⟨gb396, 0, none⟩ = some (.int .i64 a0_0) := (blk_cell BK396.out 0).trans rfl
       have hcz25_1 : wr.cell? ⟨gb396, 1, none⟩ = some (.int .i64 a0_1) := (blk_cell BK396.out 1).trans rfl
       have hcz25_2 : wr.cell? ⟨gb396, 2, none⟩ = some (.int .i64 a0_2) := (blk_cell BK396.out 2).trans rfl
       have hcz25_3 : wr.cell? ⟨gb396, 3, none⟩ = some (.int .i64 a0_3) := (blk_cell BK396.out 3).trans rfl
       have hcz25_4 : wr.cell? ⟨gb396, 4, none⟩ = some (.int .i64 a0_4) := (blk_cell BK396.out 4).trans rfl
       have hcz25_5 : wr.cell? ⟨gb396, 5, none⟩ = some (.int .i64 a0_5) := (blk_cell BK396.out 5).trans rfl
       have hcz25_6 : wr.cell? ⟨gb396, 6, none⟩ = some (.slice A0_6 l0_6.length c0_6) := (blk_cell BK396.out 6).trans rfl
       have hfz25_0 := blk_frozen BK396.out 0
       have hfz25_1 := blk_frozen BK396.out 1
       have hfz25_2 := blk_frozen BK396.out 2
       have hfz25_3 := blk_frozen BK396.out 3
       have hfz25_4 := blk_frozen BK396.out 4
       have hfz25_5 := blk_frozen BK396.out 5
       have hfz25_6 := blk_frozen BK396.out 6
       go_wp2
       repeat (go_quiet (fail); try go_wp2)
       go_ret
       exact ⟨by first | rfl | (simp [errW_none, errW_some] <;> rfl) | (simp [*, errW_none, errW_some] <;> rfl), by repeat (first | (with_reducible first | exact HB.out | apply below_alloc | apply pw_below_drewN | apply below_drew1 | refine below_set ?_ GE396.out | refine below_set ?_ GE397.out) | exact HB.out)⟩
end Go.Proofs.YtlmdhpfggobogaaDoor.G

namespace Go.Proofs.YtlmdhpfggobogaaDoor.G
open Go.RowKit Go.Proofs.YtlmdhpfggobogaaDoorW.PrintWords Go.Proofs.YtlmdhpfggobogaaDoorW.PrintLast Go.Proofs.YtlmdhpfggobogaaDoorW.PrintMore
attribute [local go_sem] max2_int min2_int max_two min_two max_three min_three max_four min_four   -- for this text's walks alone
set_option linter.unusedVariables false
set_option linter.unusedSimpArgs false
end Go.Proofs.YtlmdhpfggobogaaDoor.G

namespace Go.Proofs.YtlmdhpfggobogaaDoor.G
open Go.RowKit Go.Proofs.YtlmdhpfggobogaaDoorW.PrintWords Go.Proofs.YtlmdhpfggobogaaDoorW.PrintLast Go.Proofs.YtlmdhpfggobogaaDoorW.PrintMore
attribute [local go_sem] max2_int min2_int max_two min_two max_three min_three max_four min_four   -- for this text's walks alone
set_option linter.unusedVariables false
set_option linter.unusedSimpArgs false
end Go.Proofs.YtlmdhpfggobogaaDoor.G

namespace Go.Proofs.YtlmdhpfggobogaaDoor.G
open Go.RowKit Go.Proofs.YtlmdhpfggobogaaDoorW.PrintWords Go.Proofs.YtlmdhpfggobogaaDoorW.PrintLast Go.Proofs.YtlmdhpfggobogaaDoorW.PrintMore
attribute [local go_sem] max2_int min2_int max_two min_two max_three min_three max_four min_four   -- for this text's walks alone
set_option linter.unusedVariables false
set_option linter.unusedSimpArgs false
end Go.Proofs.YtlmdhpfggobogaaDoor.G

namespace Go.Proofs.YtlmdhpfggobogaaDoor.G
open Go.RowKit Go.Proofs.YtlmdhpfggobogaaDoorW.PrintWords Go.Proofs.YtlmdhpfggobogaaDoorW.PrintLast Go.Proofs.YtlmdhpfggobogaaDoorW.PrintMore
attribute [local go_sem] max2_int min2_int max_two min_two max_three min_three max_four min_four   -- for this text's walks alone
set_option linter.unusedVariables false
set_option linter.unusedSimpArgs false
end Go.Proofs.YtlmdhpfggobogaaDoor.G

namespace Go.Proofs.YtlmdhpfggobogaaDoor.G
open Go.RowKit Go.Proofs.YtlmdhpfggobogaaDoorW.PrintWords Go.Proofs.YtlmdhpfggobogaaDoorW.PrintLast Go.Proofs.YtlmdhpfggobogaaDoorW.PrintMore
attribute [local go_sem] max2_int min2_int max_two min_two max_three min_three max_four min_four   -- for this text's walks alone
set_option linter.unusedVariables false
set_option linter.unusedSimpArgs false
end Go.Proofs.YtlmdhpfggobogaaDoor.G

namespace Go.Proofs.YtlmdhpfggobogaaDoor.G
open Go.RowKit Go.Proofs.YtlmdhpfggobogaaDoorW.PrintWords Go.Proofs.YtlmdhpfggobogaaDoorW.PrintLast Go.Proofs.YtlmdhpfggobogaaDoorW.PrintMore
attribute [local go_sem] max2_int min2_int max_two min_two max_three min_three max_four min_four   -- for this text's walks alone
set_option linter.unusedVariables false
set_option linter.unusedSimpArgs false
end Go.Proofs.YtlmdhpfggobogaaDoor.G

namespace Go.Proofs.YtlmdhpfggobogaaDoor.G
open Go.RowKit Go.Proofs.YtlmdhpfggobogaaDoorW.PrintWords Go.Proofs.YtlmdhpfggobogaaDoorW.PrintLast Go.Proofs.YtlmdhpfggobogaaDoorW.PrintMore
attribute [local go_sem] max2_int min2_int max_two min_two max_three min_three max_four min_four   -- for this text's walks alone
set_option linter.unusedVariables false
set_option linter.unusedSimpArgs false
end Go.Proofs.YtlmdhpfggobogaaDoor.G

namespace Go.Proofs.YtlmdhpfggobogaaDoor.G
open Go.RowKit Go.Proofs.YtlmdhpfggobogaaDoorW.PrintWords Go.Proofs.YtlmdhpfggobogaaDoorW.PrintLast Go.Proofs.YtlmdhpfggobogaaDoorW.PrintMore
attribute [local go_sem] max2_int min2_int max_two min_two max_three min_three max_four min_four   -- for this text's walks alone
set_option linter.unusedVariables false
set_option linter.unusedSimpArgs false
end Go.Proofs.YtlmdhpfggobogaaDoor.G

namespace Go.Proofs.YtlmdhpfggobogaaDoor.G
open Go.RowKit Go.Proofs.YtlmdhpfggobogaaDoorW.PrintWords Go.Proofs.YtlmdhpfggobogaaDoorW.PrintLast Go.Proofs.YtlmdhpfggobogaaDoorW.PrintMore
attribute [local go_sem] max2_int min2_int max_two min_two max_three min_three max_four min_four   -- for this text's walks alone
set_option linter.unusedVariables false
set_option linter.unusedSimpArgs false
end Go.Proofs.YtlmdhpfggobogaaDoor.G
