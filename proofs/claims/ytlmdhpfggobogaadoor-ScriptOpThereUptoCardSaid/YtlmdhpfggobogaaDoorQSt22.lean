import Derived.Test.YtlmdhpfggobogaaDoorQSt5
import Derived.Test.YtlmdhpfggobogaaDoorQSt21
import Derived.Test.YtlmdhpfggobogaaDoorQSt15
import Derived.Test.YtlmdhpfggobogaaDoorQSt13
-- PRINTED by print.py (a twelfth state) out of the translation. Not trusted: Lean checks it.
namespace Go.Proofs.YtlmdhpfggobogaaDoor.G
open Go.RowKit Go.Proofs.YtlmdhpfggobogaaDoorW.PrintWords Go.Proofs.YtlmdhpfggobogaaDoorW.PrintLast Go.Proofs.YtlmdhpfggobogaaDoorW.PrintMore
attribute [local go_sem] max2_int min2_int max_two min_two max_three min_three max_four min_four   -- for this text's walks alone
set_option linter.unusedVariables false
set_option linter.unusedSimpArgs false

attribute [local go_sem high] eqA29
/-! ### barrowlaw24_ScriptOpThere: function 6 -/
mutual
def barrowlaw24_ScriptOpThere.j0 : Nat → ByteArray → Bool → Int → Int → Int → Int → ByteArray → Int → Int → Option (Bool)
 | 0, _, _, _, _, _, _, _, _, _ => none
 | k + 1, x4, x30, x332000, x332001, x332002, x332003, x332004, x332005, x332006 => if x30 = true then (some false) else (barrowlaw24_ScriptOpThere.l0 k x4 0 x332000 x332001 x332002 x332003 x332004 x332005 x332006)
def barrowlaw24_ScriptOpThere.l0 : Nat → ByteArray → Int → Int → Int → Int → Int → ByteArray → Int → Int → Option (Bool)
 | 0, _, _, _, _, _, _, _, _, _ => none
 | k + 1, x4, x5, x332000, x332001, x332002, x332003, x332004, x332005, x332006 => if x5 < (x4.size : Int) then (if 0 ≤ x5 then (if (bt x4 x5) < 32 then (some false) else (if (bt x4 x5) > 126 then (some false) else (barrowlaw24_ScriptOpThere.l0 k x4 (wrap64 (x5 + 1)) x332000 x332001 x332002 x332003 x332004 x332005 x332006))) else (none)) else ((script_ParseOp.f k x4).bind fun bt341 => (if bt341.2.2.2.2.2.2.2 = 0 then (some (bt341.1 == x332000 && (bt341.2.1 == x332001 && (bt341.2.2.1 == x332002 && (bt341.2.2.2.1 == x332003 && (bt341.2.2.2.2.1.toList == x332004.toList && (bt341.2.2.2.2.2.1 == x332005 && (bt341.2.2.2.2.2.2.1 == x332006)))))))) else (some false)))
end
def barrowlaw24_ScriptOpThere.f (k : Nat) (a0_0 : Int) (a0_1 : Int) (a0_2 : Int) (a0_3 : Int) (a0_4 : ByteArray) (a0_5 : Int) (a0_6 : Int) : Option (Bool) := (barrowlaw24_awake.f k).bind fun t323 => (if t323 = true then ((script_Plain.f a0_0 a0_1 a0_2 a0_3 a0_4 a0_5 a0_6).bind fun bt324 => ((script_PrintOp.f a0_0 a0_1 a0_2 a0_3 a0_4 a0_5 a0_6).bind fun t332 => (if bt324.1 = a0_0 then ((script_Plain.f bt324.1 bt324.2.1 bt324.2.2.1 bt324.2.2.2.1 bt324.2.2.2.2.1 bt324.2.2.2.2.2.1 bt324.2.2.2.2.2.2).bind fun bt333 => (if (!(bt333.1 == bt324.1) || (!(bt333.2.1 == bt324.2.1) || (!(bt333.2.2.1 == bt324.2.2.1) || (!(bt333.2.2.2.1 == bt324.2.2.2.1) || (!(bt333.2.2.2.2.1.toList == bt324.2.2.2.2.1.toList) || (!(bt333.2.2.2.2.2.1 == bt324.2.2.2.2.2.1) || (!(bt333.2.2.2.2.2.2 == bt324.2.2.2.2.2.2)))))))) = true then (barrowlaw24_ScriptOpThere.j0 k t332 true bt324.1 bt324.2.1 bt324.2.2.1 bt324.2.2.2.1 bt324.2.2.2.2.1 bt324.2.2.2.2.2.1 bt324.2.2.2.2.2.2) else ((script_PrintOp.f bt324.1 bt324.2.1 bt324.2.2.1 bt324.2.2.2.1 bt324.2.2.2.2.1 bt324.2.2.2.2.2.1 bt324.2.2.2.2.2.2).bind fun t340 => (barrowlaw24_ScriptOpThere.j0 k t332 (t340.toList != t332.toList) bt324.1 bt324.2.1 bt324.2.2.1 bt324.2.2.2.1 bt324.2.2.2.2.1 bt324.2.2.2.2.2.1 bt324.2.2.2.2.2.2)))) else (barrowlaw24_ScriptOpThere.j0 k t332 true bt324.1 bt324.2.1 bt324.2.2.1 bt324.2.2.2.1 bt324.2.2.2.2.1 bt324.2.2.2.2.2.1 bt324.2.2.2.2.2.2)))) else (some false))
def barrowlaw24_ScriptOpThere.T5 : Bool × List (List Nat × List Nat) := (true, [([], []), ([0], [0]), ([], []), ([2], [2]), ([1, 3], [1, 3]), ([4], [4]), ([5], [5]), ([6, 5, 5], [5, 6]), ([5], [5]), ([7, 8, 5], [5, 7, 8]), ([5, 9], [5, 9]), ([10, 7], [10]), ([11], [11]), ([12, 11, 11], [11, 12]), ([11], [11]), ([13, 14, 11], [11, 13, 14]), ([11, 15], [11, 15])])
def barrowlaw24_ScriptOpThere.B5 : List Nat := [0, 1, 0, 4, 15, 31, 63, 127, 63, 511, 1023, 2047, 4095, 8191, 4095, 32767, 65535]
theorem barrowlaw24_ScriptOpThere.tab5 : rtab .any (opsOf Tryd.f6 5) = barrowlaw24_ScriptOpThere.T5 := by kernel_rfl
theorem barrowlaw24_ScriptOpThere.bits5 : waitsOk barrowlaw24_ScriptOpThere.T5.2 barrowlaw24_ScriptOpThere.B5 = true := by kernel_rfl
set_option maxHeartbeats 8000000 in
set_option maxRecDepth 100000 in
theorem barrowlaw24_ScriptOpThere.calls (k : Nat) (a0_0 : Int) (a0_1 : Int) (a0_2 : Int) (a0_3 : Int) (a0_4 : ByteArray) (a0_5 : Int) (a0_6 : Int) (r : Bool) (w : World) (hTab : Aside0 (Tab w)) (hTabE : Aside0 (TabE w)) (h : barrowlaw24_ScriptOpThere.f k a0_0 a0_1 a0_2 a0_3 a0_4 a0_5 a0_6 = some r) :
  Calls Tryd.prog 6 #[.agg #[.int .i64 a0_0, .int .i64 a0_1, .int .i64 a0_2, .int .i64 a0_3, .string a0_4, .int .i64 a0_5, .int .i64 a0_6]] w fun e w' => e = .returned (.bool r) ∧ Below w.heap.size w w' := by
 have hu29 := Tryd.underlying29
 have HB := Aside0.mk (Below.refl w.heap.size w)
 have H : ((barrowlaw24_awake.f k).bind fun t323 => (if t323 = true then ((script_Plain.f a0_0 a0_1 a0_2 a0_3 a0_4 a0_5 a0_6).bind fun bt324 => ((script_PrintOp.f a0_0 a0_1 a0_2 a0_3 a0_4 a0_5 a0_6).bind fun t332 => (if bt324.1 = a0_0 then ((script_Plain.f bt324.1 bt324.2.1 bt324.2.2.1 bt324.2.2.2.1 bt324.2.2.2.2.1 bt324.2.2.2.2.2.1 bt324.2.2.2.2.2.2).bind fun bt333 => (if (!(bt333.1 == bt324.1) || (!(bt333.2.1 == bt324.2.1) || (!(bt333.2.2.1 == bt324.2.2.1) || (!(bt333.2.2.2.1 == bt324.2.2.2.1) || (!(bt333.2.2.2.2.1.toList == bt324.2.2.2.2.1.toList) || (!(bt333.2.2.2.2.2.1 == bt324.2.2.2.2.2.1) || (!(bt333.2.2.2.2.2.2 == bt324.2.2.2.2.2.2)))))))) = true then (barrowlaw24_ScriptOpThere.j0 k t332 true bt324.1 bt324.2.1 bt324.2.2.1 bt324.2.2.2.1 bt324.2.2.2.2.1 bt324.2.2.2.2.2.1 bt324.2.2.2.2.2.2) else ((script_PrintOp.f bt324.1 bt324.2.1 bt324.2.2.1 bt324.2.2.2.1 bt324.2.2.2.2.1 bt324.2.2.2.2.2.1 bt324.2.2.2.2.2.2).bind fun t340 => (barrowlaw24_ScriptOpThere.j0 k t332 (t340.toList != t332.toList) bt324.1 bt324.2.1 bt324.2.2.1 bt324.2.2.2.1 bt324.2.2.2.2.1 bt324.2.2.2.2.2.1 bt324.2.2.2.2.2.2)))) else (barrowlaw24_ScriptOpThere.j0 k t332 true bt324.1 bt324.2.1 bt324.2.2.1 bt324.2.2.2.1 bt324.2.2.2.2.1 bt324.2.2.2.2.2.1 bt324.2.2.2.2.2.2)))) else (some false))) = some r := h
 clear h
 replace H := Option.bind_eq_some_iff.mp H
 obtain ⟨t323, A20, H⟩ := H
 replace H : (if t323 = true then ((script_Plain.f a0_0 a0_1 a0_2 a0_3 a0_4 a0_5 a0_6).bind fun bt324 => ((script_PrintOp.f a0_0 a0_1 a0_2 a0_3 a0_4 a0_5 a0_6).bind fun t332 => (if bt324.1 = a0_0 then ((script_Plain.f bt324.1 bt324.2.1 bt324.2.2.1 bt324.2.2.2.1 bt324.2.2.2.2.1 bt324.2.2.2.2.2.1 bt324.2.2.2.2.2.2).bind fun bt333 => (if (!(bt333.1 == bt324.1) || (!(bt333.2.1 == bt324.2.1) || (!(bt333.2.2.1 == bt324.2.2.1) || (!(bt333.2.2.2.1 == bt324.2.2.2.1) || (!(bt333.2.2.2.2.1.toList == bt324.2.2.2.2.1.toList) || (!(bt333.2.2.2.2.2.1 == bt324.2.2.2.2.2.1) || (!(bt333.2.2.2.2.2.2 == bt324.2.2.2.2.2.2)))))))) = true then (barrowlaw24_ScriptOpThere.j0 k t332 true bt324.1 bt324.2.1 bt324.2.2.1 bt324.2.2.2.1 bt324.2.2.2.2.1 bt324.2.2.2.2.2.1 bt324.2.2.2.2.2.2) else ((script_PrintOp.f bt324.1 bt324.2.1 bt324.2.2.1 bt324.2.2.2.1 bt324.2.2.2.2.1 bt324.2.2.2.2.2.1 bt324.2.2.2.2.2.2).bind fun t340 => (barrowlaw24_ScriptOpThere.j0 k t332 (t340.toList != t332.toList) bt324.1 bt324.2.1 bt324.2.2.1 bt324.2.2.2.1 bt324.2.2.2.2.1 bt324.2.2.2.2.2.1 bt324.2.2.2.2.2.2)))) else (barrowlaw24_ScriptOpThere.j0 k t332 true bt324.1 bt324.2.1 bt324.2.2.1 bt324.2.2.2.1 bt324.2.2.2.2.1 bt324.2.2.2.2.2.1 bt324.2.2.2.2.2.2)))) else (some false)) = some r := H
 have A2 := Aside0.mk A20
 clear A20
 by_cases c3 : t323 = true
 ·subst c3
  have H1 : ((script_Plain.f a0_0 a0_1 a0_2 a0_3 a0_4 a0_5 a0_6).bind fun bt324 => ((script_PrintOp.f a0_0 a0_1 a0_2 a0_3 a0_4 a0_5 a0_6).bind fun t332 => (if bt324.1 = a0_0 then ((script_Plain.f bt324.1 bt324.2.1 bt324.2.2.1 bt324.2.2.2.1 bt324.2.2.2.2.1 bt324.2.2.2.2.2.1 bt324.2.2.2.2.2.2).bind fun bt333 => (if (!(bt333.1 == bt324.1) || (!(bt333.2.1 == bt324.2.1) || (!(bt333.2.2.1 == bt324.2.2.1) || (!(bt333.2.2.2.1 == bt324.2.2.2.1) || (!(bt333.2.2.2.2.1.toList == bt324.2.2.2.2.1.toList) || (!(bt333.2.2.2.2.2.1 == bt324.2.2.2.2.2.1) || (!(bt333.2.2.2.2.2.2 == bt324.2.2.2.2.2.2)))))))) = true then (barrowlaw24_ScriptOpThere.j0 k t332 true bt324.1 bt324.2.1 bt324.2.2.1 bt324.2.2.2.1 bt324.2.2.2.2.1 bt324.2.2.2.2.2.1 bt324.2.2.2.2.2.2) else ((script_PrintOp.f bt324.1 bt324.2.1 bt324.2.2.1 bt324.2.2.2.1 bt324.2.2.2.2.1 bt324.2.2.2.2.2.1 bt324.2.2.2.2.2.2).bind fun t340 => (barrowlaw24_ScriptOpThere.j0 k t332 (t340.toList != t332.toList) bt324.1 bt324.2.1 bt324.2.2.1 bt324.2.2.2.1 bt324.2.2.2.2.1 bt324.2.2.2.2.2.1 bt324.2.2.2.2.2.2)))) else (barrowlaw24_ScriptOpThere.j0 k t332 true bt324.1 bt324.2.1 bt324.2.2.1 bt324.2.2.2.1 bt324.2.2.2.2.1 bt324.2.2.2.2.2.1 bt324.2.2.2.2.2.2)))) = some r := by rw [if_pos rfl] at H; exact H
  clear H
  have H := H1
  clear H1
  replace H := Option.bind_eq_some_iff.mp H
  obtain ⟨⟨t324, t325, t326, t327, t328, t329, t330⟩, A40, H⟩ := H
  replace H : ((script_PrintOp.f a0_0 a0_1 a0_2 a0_3 a0_4 a0_5 a0_6).bind fun t332 => (if t324 = a0_0 then ((script_Plain.f t324 t325 t326 t327 t328 t329 t330).bind fun bt333 => (if (!(bt333.1 == t324) || (!(bt333.2.1 == t325) || (!(bt333.2.2.1 == t326) || (!(bt333.2.2.2.1 == t327) || (!(bt333.2.2.2.2.1.toList == t328.toList) || (!(bt333.2.2.2.2.2.1 == t329) || (!(bt333.2.2.2.2.2.2 == t330)))))))) = true then (barrowlaw24_ScriptOpThere.j0 k t332 true t324 t325 t326 t327 t328 t329 t330) else ((script_PrintOp.f t324 t325 t326 t327 t328 t329 t330).bind fun t340 => (barrowlaw24_ScriptOpThere.j0 k t332 (t340.toList != t332.toList) t324 t325 t326 t327 t328 t329 t330)))) else (barrowlaw24_ScriptOpThere.j0 k t332 true t324 t325 t326 t327 t328 t329 t330))) = some r := H
  have A4 := Aside0.mk A40
  clear A40
  replace H := Option.bind_eq_some_iff.mp H
  obtain ⟨t332, A50, H⟩ := H
  replace H : (if t324 = a0_0 then ((script_Plain.f t324 t325 t326 t327 t328 t329 t330).bind fun bt333 => (if (!(bt333.1 == t324) || (!(bt333.2.1 == t325) || (!(bt333.2.2.1 == t326) || (!(bt333.2.2.2.1 == t327) || (!(bt333.2.2.2.2.1.toList == t328.toList) || (!(bt333.2.2.2.2.2.1 == t329) || (!(bt333.2.2.2.2.2.2 == t330)))))))) = true then (barrowlaw24_ScriptOpThere.j0 k t332 true t324 t325 t326 t327 t328 t329 t330) else ((script_PrintOp.f t324 t325 t326 t327 t328 t329 t330).bind fun t340 => (barrowlaw24_ScriptOpThere.j0 k t332 (t340.toList != t332.toList) t324 t325 t326 t327 t328 t329 t330)))) else (barrowlaw24_ScriptOpThere.j0 k t332 true t324 t325 t326 t327 t328 t329 t330)) = some r := H
  have A5 := Aside0.mk A50
  clear A50
  have HC6 := Aside0.mk H
  clear H
  go_enter Tryd.func6, Tryd.ntmps6
  go_upto_region 5 with (first | ((with_reducible refine gate_dst (N := 1) rfl ?_); refine box_event ?hg (N := 1) ?hd (cs := #[.int .i64 a0_0, .int .i64 a0_1, .int .i64 a0_2, .int .i64 a0_3, .string a0_4, .int .i64 a0_5, .int .i64 a0_6]) (t := 29) ?hr ?_; (case hd => rfl); (case hg => rfl); (case hr => first | (go_simp; done) | (go_simp; rfl)); intro gb322 hg w7 hbox hb; have n0_ := Aside0.mk (below_step (by repeat (first | (with_reducible first | exact HB.out | apply below_alloc | apply pw_below_drewN | apply below_drew1) | exact HB.out)) hb); have n1_ := Aside0.mk (hbox); have n2_ := Aside0.mk ((by rw [hg]; exact (below_size (by repeat (first | (with_reducible first | exact HB.out | apply below_alloc | apply pw_below_drewN | apply below_drew1) | exact HB.out))) : w.heap.size ≤ gb322)); have n3_ := Aside0.mk ((by rw [hg]; exact (below_size (by repeat (first | (with_reducible first | exact HB.out | apply below_alloc | apply pw_below_drewN | apply below_drew1) | exact HB.out))) : w.heap.size ≤ gb322)); clear HB; have HB := n0_; have BK322 := n1_; have GW322 := n2_; have GE322 := n3_; clear n0_ n1_ n2_ n3_; clear hb hbox hg) | ((with_reducible refine gate_callee (f := 16) rfl ?_); refine goesL_ (some 8) rfl rfl Tryd.func16 (by kernel_rfl) rfl #[] rfl (by (try simp only [List.map_toArray, List.map_cons, List.map_nil]); first | done | rfl | (simp only [List.length_drop, List.length_take]; rfl)) ?_; (with_reducible refine (barrowlaw24_awake.calls k  true _ ?tab1_ ?tab2_ A2.out).mono ?_); (case tab1_ => exact tab_keep hTab (by repeat (first | (with_reducible first | exact HB.out | apply below_alloc | apply pw_below_drewN | apply below_drew1) | (with_reducible refine below_set ?_ GE322.out) | (with_reducible refine below_set ?_ GE331.out) | exact HB.out))); (case tab2_ => exact tabE_keep hTabE (by repeat (first | (with_reducible first | exact HB.out | apply below_alloc | apply pw_below_drewN | apply below_drew1) | (with_reducible refine below_set ?_ GE322.out) | (with_reducible refine below_set ?_ GE331.out) | exact HB.out))); rintro e w8 ⟨rfl, hb⟩; refine ⟨_, rfl, ?_⟩; have n0_ := Aside0.mk (blk_below (g := gb322) (o := .cells #[.int .i64 a0_0, .int .i64 a0_1, .int .i64 a0_2, .int .i64 a0_3, .string a0_4, .int .i64 a0_5, .int .i64 a0_6] 29 (0, 0)) (by (with_reducible repeat (first | refine blk_drewN ?_ _ | refine blk_drew ?_ | refine blk_alloc ?_ _)); exact BK322.out) hb); have n1_ := Aside0.mk (below_step (by repeat (first | (with_reducible first | exact HB.out | apply below_alloc | apply pw_below_drewN | apply below_drew1 | refine below_set ?_ GE322.out) | exact HB.out)) hb); clear BK322; clear HB; have BK322 := n0_; have HB := n1_; clear n0_ n1_; (try clear hb); (try clear hb2); (try clear hk); (try clear hi); have hcz9_0 : w8.cell? ⟨gb322, 0, none⟩ = some (.int .i64 a0_0) := (blk_cell BK322.out 0).trans rfl; have hcz9_1 : w8.cell? ⟨gb322, 1, none⟩ = some (.int .i64 a0_1) := (blk_cell BK322.out 1).trans rfl; have hcz9_2 : w8.cell? ⟨gb322, 2, none⟩ = some (.int .i64 a0_2) := (blk_cell BK322.out 2).trans rfl; have hcz9_3 : w8.cell? ⟨gb322, 3, none⟩ = some (.int .i64 a0_3) := (blk_cell BK322.out 3).trans rfl; have hcz9_4 : w8.cell? ⟨gb322, 4, none⟩ = some (.string a0_4) := (blk_cell BK322.out 4).trans rfl; have hcz9_5 : w8.cell? ⟨gb322, 5, none⟩ = some (.int .i64 a0_5) := (blk_cell BK322.out 5).trans rfl; have hcz9_6 : w8.cell? ⟨gb322, 6, none⟩ = some (.int .i64 a0_6) := (blk_cell BK322.out 6).trans rfl; have hfz9_0 := blk_frozen BK322.out 0; have hfz9_1 := blk_frozen BK322.out 1; have hfz9_2 := blk_frozen BK322.out 2; have hfz9_3 := blk_frozen BK322.out 3; have hfz9_4 := blk_frozen BK322.out 4; have hfz9_5 := blk_frozen BK322.out 5; have hfz9_6 := blk_frozen BK322.out 6) | ((with_reducible refine gate_callee (f := 20) rfl ?_); refine goesL_ (some 11) rfl rfl Tryd.func20 (by kernel_rfl) rfl #[.agg #[.int .i64 a0_0, .int .i64 a0_1, .int .i64 a0_2, .int .i64 a0_3, .string a0_4, .int .i64 a0_5, .int .i64 a0_6]] rfl (by (try simp only [List.map_toArray, List.map_cons, List.map_nil]); first | done | rfl | (simp only [List.length_drop, List.length_take]; rfl)) ?_; (with_reducible refine (script_Plain.calls a0_0 a0_1 a0_2 a0_3 a0_4 a0_5 a0_6 t324 t325 t326 t327 t328 t329 t330 _ A4.out).mono ?_); rintro e w10 ⟨rfl, hb⟩; refine ⟨_, rfl, ?_⟩; have n0_ := Aside0.mk (blk_below (g := gb322) (o := .cells #[.int .i64 a0_0, .int .i64 a0_1, .int .i64 a0_2, .int .i64 a0_3, .string a0_4, .int .i64 a0_5, .int .i64 a0_6] 29 (0, 0)) (by (with_reducible repeat (first | refine blk_drewN ?_ _ | refine blk_drew ?_ | refine blk_alloc ?_ _)); exact BK322.out) hb); have n1_ := Aside0.mk (below_step (by repeat (first | (with_reducible first | exact HB.out | apply below_alloc | apply pw_below_drewN | apply below_drew1 | refine below_set ?_ GE322.out) | exact HB.out)) hb); clear BK322; clear HB; have BK322 := n0_; have HB := n1_; clear n0_ n1_; (try clear hb); (try clear hb2); (try clear hk); (try clear hi)) | ((with_reducible refine gate_dst (N := 3) rfl ?_); refine box_event ?hg (N := 3) ?hd (cs := #[.int .i64 0, .int .i64 0, .int .i64 0, .int .i64 0, .string (⟨#[]⟩ : ByteArray), .int .i64 0, .int .i64 0]) (t := 29) ?hr ?_; (case hd => rfl); (case hg => rfl); (case hr => first | (go_simp; done) | (go_simp; rfl)); intro gb331 hg w11 hbox hb; have n0_ := Aside0.mk (blk_below (g := gb322) (o := .cells #[.int .i64 a0_0, .int .i64 a0_1, .int .i64 a0_2, .int .i64 a0_3, .string a0_4, .int .i64 a0_5, .int .i64 a0_6] 29 (0, 0)) (by (with_reducible repeat (first | refine blk_drewN ?_ _ | refine blk_drew ?_ | refine blk_alloc ?_ _)); exact BK322.out) hb); have n1_ := Aside0.mk (below_step (by repeat (first | (with_reducible first | exact HB.out | apply below_alloc | apply pw_below_drewN | apply below_drew1 | refine below_set ?_ GE322.out) | exact HB.out)) hb); have n2_ := Aside0.mk (hbox); have n3_ := Aside0.mk ((by rw [hg]; exact (below_size (by repeat (first | (with_reducible first | exact HB.out | apply below_alloc | apply pw_below_drewN | apply below_drew1 | refine below_set ?_ GE322.out) | exact HB.out))) : w.heap.size ≤ gb331)); have n4_ := Aside0.mk ((by rw [hg]; exact (below_size (by repeat (first | (with_reducible first | exact HB.out | apply below_alloc | apply pw_below_drewN | apply below_drew1 | refine below_set ?_ GE322.out) | exact HB.out))) : w.heap.size ≤ gb331)); have n5_ := Aside0.mk ((by rw [hg]; exact Nat.ne_of_lt (blk_lt (g := gb322) (o := .cells #[.int .i64 a0_0, .int .i64 a0_1, .int .i64 a0_2, .int .i64 a0_3, .string a0_4, .int .i64 a0_5, .int .i64 a0_6] 29 (0, 0)) (by (with_reducible repeat (first | refine blk_drewN ?_ _ | refine blk_drew ?_ | refine blk_alloc ?_ _)); exact BK322.out)) : gb322 ≠ gb331)); have n6_ := Aside0.mk ((by rw [hg]; exact Nat.ne_of_gt (blk_lt (g := gb322) (o := .cells #[.int .i64 a0_0, .int .i64 a0_1, .int .i64 a0_2, .int .i64 a0_3, .string a0_4, .int .i64 a0_5, .int .i64 a0_6] 29 (0, 0)) (by (with_reducible repeat (first | refine blk_drewN ?_ _ | refine blk_drew ?_ | refine blk_alloc ?_ _)); exact BK322.out)) : gb331 ≠ gb322)); clear BK322; clear HB; have BK322 := n0_; have HB := n1_; have BK331 := n2_; have GW331 := n3_; have GE331 := n4_; have NB322_331 := n5_; have NB331_322 := n6_; clear n0_ n1_ n2_ n3_ n4_ n5_ n6_; clear hb hbox hg; have hnb12 := NB331_322.out; have hnc12 := NB322_331.out; have hcz13_0 : w11.cell? ⟨gb331, 0, none⟩ = some (.int .i64 0) := (blk_cell BK331.out 0).trans rfl; have hcz13_1 : w11.cell? ⟨gb331, 1, none⟩ = some (.int .i64 0) := (blk_cell BK331.out 1).trans rfl; have hcz13_2 : w11.cell? ⟨gb331, 2, none⟩ = some (.int .i64 0) := (blk_cell BK331.out 2).trans rfl; have hcz13_3 : w11.cell? ⟨gb331, 3, none⟩ = some (.int .i64 0) := (blk_cell BK331.out 3).trans rfl; have hcz13_4 : w11.cell? ⟨gb331, 4, none⟩ = some (.string (⟨#[]⟩ : ByteArray)) := (blk_cell BK331.out 4).trans rfl; have hcz13_5 : w11.cell? ⟨gb331, 5, none⟩ = some (.int .i64 0) := (blk_cell BK331.out 5).trans rfl; have hcz13_6 : w11.cell? ⟨gb331, 6, none⟩ = some (.int .i64 0) := (blk_cell BK331.out 6).trans rfl; have hfz13_0 := blk_frozen BK331.out 0; have hfz13_1 := blk_frozen BK331.out 1; have hfz13_2 := blk_frozen BK331.out 2; have hfz13_3 := blk_frozen BK331.out 3; have hfz13_4 := blk_frozen BK331.out 4; have hfz13_5 := blk_frozen BK331.out 5; have hfz13_6 := blk_frozen BK331.out 6; have hcz14_0 : w11.cell? ⟨gb322, 0, none⟩ = some (.int .i64 a0_0) := (blk_cell BK322.out 0).trans rfl; have hcz14_1 : w11.cell? ⟨gb322, 1, none⟩ = some (.int .i64 a0_1) := (blk_cell BK322.out 1).trans rfl; have hcz14_2 : w11.cell? ⟨gb322, 2, none⟩ = some (.int .i64 a0_2) := (blk_cell BK322.out 2).trans rfl; have hcz14_3 : w11.cell? ⟨gb322, 3, none⟩ = some (.int .i64 a0_3) := (blk_cell BK322.out 3).trans rfl; have hcz14_4 : w11.cell? ⟨gb322, 4, none⟩ = some (.string a0_4) := (blk_cell BK322.out 4).trans rfl; have hcz14_5 : w11.cell? ⟨gb322, 5, none⟩ = some (.int .i64 a0_5) := (blk_cell BK322.out 5).trans rfl; have hcz14_6 : w11.cell? ⟨gb322, 6, none⟩ = some (.int .i64 a0_6) := (blk_cell BK322.out 6).trans rfl; have hfz14_0 := blk_frozen BK322.out 0; have hfz14_1 := blk_frozen BK322.out 1; have hfz14_2 := blk_frozen BK322.out 2; have hfz14_3 := blk_frozen BK322.out 3; have hfz14_4 := blk_frozen BK322.out 4; have hfz14_5 := blk_frozen BK322.out 5; have hfz14_6 := blk_frozen BK322.out 6) | ((with_reducible refine gate_callee (f := 19) rfl ?_); refine goesL_ (some 13) rfl rfl Tryd.func19 (by kernel_rfl) rfl #[.agg #[.int .i64 a0_0, .int .i64 a0_1, .int .i64 a0_2, .int .i64 a0_3, .string a0_4, .int .i64 a0_5, .int .i64 a0_6]] rfl (by (try simp only [List.map_toArray, List.map_cons, List.map_nil]); first | done | rfl | (simp only [List.length_drop, List.length_take]; rfl)) ?_; (with_reducible refine (script_PrintOp.calls a0_0 a0_1 a0_2 a0_3 a0_4 a0_5 a0_6 t332 _ ?tab3_ A5.out).mono ?_); (case tab3_ => exact tab_keep hTab (by repeat (first | (with_reducible first | exact HB.out | apply below_alloc | apply pw_below_drewN | apply below_drew1) | (with_reducible refine below_set ?_ GE322.out) | (with_reducible refine below_set ?_ GE331.out) | exact HB.out))); rintro e w15 ⟨rfl, hb⟩; refine ⟨_, rfl, ?_⟩; have n0_ := Aside0.mk (blk_below (g := gb322) (o := .cells #[.int .i64 a0_0, .int .i64 a0_1, .int .i64 a0_2, .int .i64 a0_3, .string a0_4, .int .i64 a0_5, .int .i64 a0_6] 29 (0, 0)) (by (with_reducible repeat (first | refine blk_drewN ?_ _ | refine blk_drew ?_ | refine blk_alloc ?_ _)); refine blk_far ?_ NB322_331.out _; (with_reducible repeat (first | refine blk_drewN ?_ _ | refine blk_drew ?_ | refine blk_alloc ?_ _)); refine blk_far ?_ NB322_331.out _; (with_reducible repeat (first | refine blk_drewN ?_ _ | refine blk_drew ?_ | refine blk_alloc ?_ _)); refine blk_far ?_ NB322_331.out _; (with_reducible repeat (first | refine blk_drewN ?_ _ | refine blk_drew ?_ | refine blk_alloc ?_ _)); refine blk_far ?_ NB322_331.out _; (with_reducible repeat (first | refine blk_drewN ?_ _ | refine blk_drew ?_ | refine blk_alloc ?_ _)); refine blk_far ?_ NB322_331.out _; (with_reducible repeat (first | refine blk_drewN ?_ _ | refine blk_drew ?_ | refine blk_alloc ?_ _)); refine blk_far ?_ NB322_331.out _; (with_reducible repeat (first | refine blk_drewN ?_ _ | refine blk_drew ?_ | refine blk_alloc ?_ _)); refine blk_far ?_ NB322_331.out _; (with_reducible repeat (first | refine blk_drewN ?_ _ | refine blk_drew ?_ | refine blk_alloc ?_ _)); exact BK322.out) hb); have n1_ := Aside0.mk (blk_below (g := gb331) (o := .cells #[.int .i64 t324, .int .i64 t325, .int .i64 t326, .int .i64 t327, .string t328, .int .i64 t329, .int .i64 t330] 29 (0, 0)) (by (with_reducible repeat (first | refine blk_drewN ?_ _ | refine blk_drew ?_ | refine blk_alloc ?_ _)); refine blk_put (cs := #[.int .i64 t324, .int .i64 t325, .int .i64 t326, .int .i64 t327, .string t328, .int .i64 t329, .int .i64 0]) ?_ 6 _ rfl; (with_reducible repeat (first | refine blk_drewN ?_ _ | refine blk_drew ?_ | refine blk_alloc ?_ _)); refine blk_put (cs := #[.int .i64 t324, .int .i64 t325, .int .i64 t326, .int .i64 t327, .string t328, .int .i64 0, .int .i64 0]) ?_ 5 _ rfl; (with_reducible repeat (first | refine blk_drewN ?_ _ | refine blk_drew ?_ | refine blk_alloc ?_ _)); refine blk_put (cs := #[.int .i64 t324, .int .i64 t325, .int .i64 t326, .int .i64 t327, .string (⟨#[]⟩ : ByteArray), .int .i64 0, .int .i64 0]) ?_ 4 _ rfl; (with_reducible repeat (first | refine blk_drewN ?_ _ | refine blk_drew ?_ | refine blk_alloc ?_ _)); refine blk_put (cs := #[.int .i64 t324, .int .i64 t325, .int .i64 t326, .int .i64 0, .string (⟨#[]⟩ : ByteArray), .int .i64 0, .int .i64 0]) ?_ 3 _ rfl; (with_reducible repeat (first | refine blk_drewN ?_ _ | refine blk_drew ?_ | refine blk_alloc ?_ _)); refine blk_put (cs := #[.int .i64 t324, .int .i64 t325, .int .i64 0, .int .i64 0, .string (⟨#[]⟩ : ByteArray), .int .i64 0, .int .i64 0]) ?_ 2 _ rfl; (with_reducible repeat (first | refine blk_drewN ?_ _ | refine blk_drew ?_ | refine blk_alloc ?_ _)); refine blk_put (cs := #[.int .i64 t324, .int .i64 0, .int .i64 0, .int .i64 0, .string (⟨#[]⟩ : ByteArray), .int .i64 0, .int .i64 0]) ?_ 1 _ rfl; (with_reducible repeat (first | refine blk_drewN ?_ _ | refine blk_drew ?_ | refine blk_alloc ?_ _)); refine blk_put (cs := #[.int .i64 0, .int .i64 0, .int .i64 0, .int .i64 0, .string (⟨#[]⟩ : ByteArray), .int .i64 0, .int .i64 0]) ?_ 0 _ rfl; (with_reducible repeat (first | refine blk_drewN ?_ _ | refine blk_drew ?_ | refine blk_alloc ?_ _)); exact BK331.out) hb); have n2_ := Aside0.mk (below_step (by repeat (first | (with_reducible first | exact HB.out | apply below_alloc | apply pw_below_drewN | apply below_drew1 | refine below_set ?_ GE322.out | refine below_set ?_ GE331.out) | exact HB.out)) hb); clear BK322; clear BK331; clear HB; have BK322 := n0_; have BK331 := n1_; have HB := n2_; clear n0_ n1_ n2_; (try clear hb); (try clear hb2); (try clear hk); (try clear hi)))
  (try simp only [Act.put, List.setIfInBounds_toArray, List.set_cons_zero, List.set_cons_succ])
  go_cut [30] (fun v30 wc => ∃ (kq : Nat) (x30_5 : Bool), v30 = .bool x30_5 ∧ Aside0 (barrowlaw24_ScriptOpThere.j0 kq t332 x30_5 t324 t325 t326 t327 t328 t329 t330 = some r) ∧ Aside0 (kq ≤ k) ∧ Aside0 (wc.heap[gb322]? = some (.cells #[.int .i64 a0_0, .int .i64 a0_1, .int .i64 a0_2, .int .i64 a0_3, .string a0_4, .int .i64 a0_5, .int .i64 a0_6] 29 (0, 0))) ∧ Aside0 (wc.heap[gb331]? = some (.cells #[.int .i64 t324, .int .i64 t325, .int .i64 t326, .int .i64 t327, .string t328, .int .i64 t329, .int .i64 t330] 29 (0, 0))) ∧ Aside0 (Below w.heap.size w wc))
  case first =>
   have H := HC6.out
   clear HC6
   by_cases c16 : t324 = a0_0
   ·rw [if_pos c16] at H
    have c16b0 : (t324 == a0_0) = true := beq_iff_eq.mpr c16
    have c16b1 : (t324 != a0_0) = false := bne_eq_false_iff_eq.mpr c16
    clear c16
    (first | rw [c16b0] | (simp only [i64_w, i32_w]; rw [c16b0]) | skip)
    replace H := Option.bind_eq_some_iff.mp H
    obtain ⟨⟨t333, t334, t335, t336, t337, t338, t339⟩, A170, H⟩ := H
    replace H : (if (!(t333 == t324) || (!(t334 == t325) || (!(t335 == t326) || (!(t336 == t327) || (!(t337.toList == t328.toList) || (!(t338 == t329) || (!(t339 == t330)))))))) = true then (barrowlaw24_ScriptOpThere.j0 k t332 true t324 t325 t326 t327 t328 t329 t330) else ((script_PrintOp.f t324 t325 t326 t327 t328 t329 t330).bind fun t340 => (barrowlaw24_ScriptOpThere.j0 k t332 (t340.toList != t332.toList) t324 t325 t326 t327 t328 t329 t330))) = some r := H
    have A17 := Aside0.mk A170
    clear A170
    by_cases c18 : (!(t333 == t324) || (!(t334 == t325) || (!(t335 == t326) || (!(t336 == t327) || (!(t337.toList == t328.toList) || (!(t338 == t329) || (!(t339 == t330)))))))) = true
    ·rw [if_pos c18] at H
     have c18b0 : (!(t333 == t324) || (!(t334 == t325) || (!(t335 == t326) || (!(t336 == t327) || (!(t337.toList == t328.toList) || (!(t338 == t329) || (!(t339 == t330)))))))) = true := c18
     clear c18
     have H' := Aside0.mk H
     clear H
     try go_wp2
     have n0_ := Aside0.mk (blk_drew BK322.out)
     have n1_ := Aside0.mk (blk_drew BK331.out)
     have n2_ := Aside0.mk (below_drew1 HB.out)
     clear BK322
     clear BK331
     clear HB
     have BK322 := n0_
     have BK331 := n1_
     have HB := n2_
     clear n0_ n1_ n2_
     refine start_ (n := 17) (S := fun w' => w'.cell? ⟨gb331, 0, none⟩ = some (.int .i64 t324) ∧ w'.cell? ⟨gb331, 1, none⟩ = some (.int .i64 t325) ∧ w'.cell? ⟨gb331, 2, none⟩ = some (.int .i64 t326) ∧ w'.cell? ⟨gb331, 3, none⟩ = some (.int .i64 t327) ∧ w'.cell? ⟨gb331, 4, none⟩ = some (.string t328) ∧ w'.cell? ⟨gb331, 5, none⟩ = some (.int .i64 t329) ∧ w'.cell? ⟨gb331, 6, none⟩ = some (.int .i64 t330) ∧ w'.cell? ⟨gb322, 0, none⟩ = some (.int .i64 a0_0) ∧ w'.cell? ⟨gb322, 1, none⟩ = some (.int .i64 a0_1) ∧ w'.cell? ⟨gb322, 2, none⟩ = some (.int .i64 a0_2) ∧ w'.cell? ⟨gb322, 3, none⟩ = some (.int .i64 a0_3) ∧ w'.cell? ⟨gb322, 4, none⟩ = some (.string a0_4) ∧ w'.cell? ⟨gb322, 5, none⟩ = some (.int .i64 a0_5) ∧ w'.cell? ⟨gb322, 6, none⟩ = some (.int .i64 a0_6)) (ds := []) #[false, false, false, false, false, false, false, false, false, false, false, false, false, false, false, false, false] (by kernel_rfl) rfl rfl ⟨(blk_cell BK331.out 0).trans rfl, (blk_cell BK331.out 1).trans rfl, (blk_cell BK331.out 2).trans rfl, (blk_cell BK331.out 3).trans rfl, (blk_cell BK331.out 4).trans rfl, (blk_cell BK331.out 5).trans rfl, (blk_cell BK331.out 6).trans rfl, (blk_cell BK322.out 0).trans rfl, (blk_cell BK322.out 1).trans rfl, (blk_cell BK322.out 2).trans rfl, (blk_cell BK322.out 3).trans rfl, (blk_cell BK322.out 4).trans rfl, (blk_cell BK322.out 5).trans rfl, (blk_cell BK322.out 6).trans rfl⟩ (fun hHeld => ?_); refine with_tabW barrowlaw24_ScriptOpThere.tab5 barrowlaw24_ScriptOpThere.bits5 (fun HT_ HW_ => ?_)
     generalize w15.drew = w19 at BK322 BK331 HB hHeld ⊢
     refine pure_ (i := 0) (N := some 14) (v := ?_) (a' := ?_) #[true, false, false, false, false, false, false, false, false, false, false, false, false, false, false, false, false] rfl rfl (any_of HT_.out (by kernel_rfl)) (fun _ _ _ h => h) (Or.inl ⟨by rfl, ?_⟩) ?_ ?_
     rotate_left
     ·intro w'
      go_simp
      with_reducible rfl
     rotate_left
     ·simp only [Act.put, List.setIfInBounds_toArray, List.set_cons_zero, List.set_cons_succ, i64_w, i32_w]
      rfl
     refine pure_ (i := 2) (N := some 16) (v := ?_) (a' := ?_) #[true, false, true, false, false, false, false, false, false, false, false, false, false, false, false, false, false] rfl rfl (any_of HT_.out (by kernel_rfl)) (fun _ _ _ h => h) (Or.inl ⟨by rfl, ?_⟩) ?_ ?_
     rotate_left
     ·intro w'
      go_simp
      with_reducible rfl
     rotate_left
     ·simp only [Act.put, List.setIfInBounds_toArray, List.set_cons_zero, List.set_cons_succ, i64_w, i32_w]
      rfl
     refine take_ (i := 1) (N := some 15) (v := ?_) (a' := ?_) #[true, true, true, false, false, false, false, false, false, false, false, false, false, false, false, false, false] rfl rfl (take_ofW HT_.out HW_.out (by kernel_rfl)) (fun _ _ _ h => h) (Or.inl ⟨by rfl, ?_⟩) hHeld ?_ ?_
     rotate_left
     ·rintro w' ⟨s0, s1, s2, s3, s4, s5, s6, s7, s8, s9, s10, s11, s12, s13⟩
      go_simp
      with_reducible rfl
     rotate_left
     ·simp only [Act.put, List.setIfInBounds_toArray, List.set_cons_zero, List.set_cons_succ, i64_w, i32_w]
      rfl
     refine take_ (i := 3) (N := some 17) (v := ?_) (a' := ?_) #[true, true, true, true, false, false, false, false, false, false, false, false, false, false, false, false, false] rfl rfl (take_ofW HT_.out HW_.out (by kernel_rfl)) (fun _ _ _ h => h) (Or.inl ⟨by rfl, ?_⟩) hHeld ?_ ?_
     rotate_left
     ·rintro w' ⟨s0, s1, s2, s3, s4, s5, s6, s7, s8, s9, s10, s11, s12, s13⟩
      go_simp
      with_reducible rfl
     rotate_left
     ·simp only [Act.put, List.setIfInBounds_toArray, List.set_cons_zero, List.set_cons_succ, i64_w, i32_w]
      rfl
     refine pure_ (i := 4) (N := some 18) (v := ?_) (a' := ?_) #[true, true, true, true, true, false, false, false, false, false, false, false, false, false, false, false, false] rfl rfl (any_of HT_.out (by kernel_rfl)) (fun _ _ _ h => h) (Or.inl ⟨by rfl, ?_⟩) ?_ ?_
     rotate_left
     ·intro w'
      go_simp
      with_reducible rfl
     rotate_left
     ·simp only [Act.put, List.setIfInBounds_toArray, List.set_cons_zero, List.set_cons_succ, i64_w, i32_w]
      rfl
     refine pure_ (i := 5) (N := some 19) (v := ?_) (a' := ?_) #[true, true, true, true, true, true, false, false, false, false, false, false, false, false, false, false, false] rfl rfl (any_of HT_.out (by kernel_rfl)) (fun _ _ _ h => h) (Or.inl ⟨by rfl, ?_⟩) ?_ ?_
     rotate_left
     ·intro w'
      go_simp
      with_reducible rfl
     rotate_left
     ·simp only [Act.put, List.setIfInBounds_toArray, List.set_cons_zero, List.set_cons_succ, i64_w, i32_w]
      rfl
     refine take_ (i := 6) (N := some 20) (v := ?_) (a' := ?_) #[true, true, true, true, true, true, true, false, false, false, false, false, false, false, false, false, false] rfl rfl (take_ofW HT_.out HW_.out (by kernel_rfl)) (fun _ _ _ h => h) (Or.inl ⟨by rfl, ?_⟩) hHeld ?_ ?_
     rotate_left
     ·rintro w' ⟨s0, s1, s2, s3, s4, s5, s6, s7, s8, s9, s10, s11, s12, s13⟩
      go_simp
      with_reducible rfl
     rotate_left
     ·simp only [Act.put, List.setIfInBounds_toArray, List.set_cons_zero, List.set_cons_succ, i64_w, i32_w]
      rfl
     refine take_ (i := 8) (N := some 22) (v := ?_) (a' := ?_) #[true, true, true, true, true, true, true, false, true, false, false, false, false, false, false, false, false] rfl rfl (take_ofW HT_.out HW_.out (by kernel_rfl)) (fun _ _ _ h => h) (Or.inl ⟨by rfl, ?_⟩) hHeld ?_ ?_
     rotate_left
     ·rintro w' ⟨s0, s1, s2, s3, s4, s5, s6, s7, s8, s9, s10, s11, s12, s13⟩
      go_simp
      with_reducible rfl
     rotate_left
     ·simp only [Act.put, List.setIfInBounds_toArray, List.set_cons_zero, List.set_cons_succ, i64_w, i32_w]
      rfl
     refine one_ (i := 7) (N := some 21) #[true, true, true, true, true, true, true, true, true, false, false, false, false, false, false, false, false] rfl rfl (one_of HT_.out (by kernel_rfl)) (by decide) (fun K hK => ?_)
     refine goes_ Tryd.func20 (by kernel_rfl) rfl #[.agg #[.int .i64 t324, .int .i64 t325, .int .i64 t326, .int .i64 t327, .string t328, .int .i64 t329, .int .i64 t330]] (by rfl) rfl rfl (by (try simp only [List.map_toArray, List.map_cons, List.map_nil]); first | done | rfl | (simp only [List.length_drop, List.length_take]; rfl)) ?_
     with_reducible refine (script_Plain.calls t324 t325 t326 t327 t328 t329 t330 t333 t334 t335 t336 t337 t338 t339 _ A17.out).mono ?_
     rintro e w20 ⟨rfl, hb⟩
     refine ⟨_, rfl, ?_⟩
     have n0_ := Aside0.mk (blk_below (g := gb322) (o := .cells #[.int .i64 a0_0, .int .i64 a0_1, .int .i64 a0_2, .int .i64 a0_3, .string a0_4, .int .i64 a0_5, .int .i64 a0_6] 29 (0, 0)) (by (with_reducible repeat (first | refine blk_drewN ?_ _ | refine blk_drew ?_ | refine blk_alloc ?_ _)); exact BK322.out) hb)
     have n1_ := Aside0.mk (blk_below (g := gb331) (o := .cells #[.int .i64 t324, .int .i64 t325, .int .i64 t326, .int .i64 t327, .string t328, .int .i64 t329, .int .i64 t330] 29 (0, 0)) (by (with_reducible repeat (first | refine blk_drewN ?_ _ | refine blk_drew ?_ | refine blk_alloc ?_ _)); exact BK331.out) hb)
     have n2_ := Aside0.mk (below_step (by repeat (first | (with_reducible first | exact HB.out | apply below_alloc | apply pw_below_drewN | apply below_drew1 | refine below_set ?_ GE322.out | refine below_set ?_ GE331.out) | exact HB.out)) hb)
     clear BK322
     clear BK331
     clear HB
     have BK322 := n0_
     have BK331 := n1_
     have HB := n2_
     clear n0_ n1_ n2_
     (try clear hb)
     (try clear hb2)
     (try clear hk)
     (try clear hi)
     refine hK.out _ _ ⟨(blk_cell BK331.out 0).trans rfl, (blk_cell BK331.out 1).trans rfl, (blk_cell BK331.out 2).trans rfl, (blk_cell BK331.out 3).trans rfl, (blk_cell BK331.out 4).trans rfl, (blk_cell BK331.out 5).trans rfl, (blk_cell BK331.out 6).trans rfl, (blk_cell BK322.out 0).trans rfl, (blk_cell BK322.out 1).trans rfl, (blk_cell BK322.out 2).trans rfl, (blk_cell BK322.out 3).trans rfl, (blk_cell BK322.out 4).trans rfl, (blk_cell BK322.out 5).trans rfl, (blk_cell BK322.out 6).trans rfl⟩ (fun hHeld => ?_)
     clear hK K
     refine norm_ (a' := ?_) ?_ ?_
     rotate_left
     ·show Act.put _ (some 21) _ = _
      simp only [Act.put, List.setIfInBounds_toArray, List.set_cons_zero, List.set_cons_succ, i64_w, i32_w]
      rfl
     refine pure_ (i := 9) (N := some 23) (v := ?_) (a' := ?_) #[true, true, true, true, true, true, true, true, true, true, false, false, false, false, false, false, false] rfl rfl (any_of HT_.out (by kernel_rfl)) (fun _ _ _ h => h) (Or.inl ⟨by rfl, ?_⟩) ?_ ?_
     rotate_left
     ·intro w'
      go_simp
      with_reducible rfl
     rotate_left
     ·simp only [Act.put, List.setIfInBounds_toArray, List.set_cons_zero, List.set_cons_succ, i64_w, i32_w]
      rfl
     refine pure_ (i := 10) (N := some 24) (v := ?_) (a' := ?_) #[true, true, true, true, true, true, true, true, true, true, true, false, false, false, false, false, false] rfl rfl (any_of HT_.out (by kernel_rfl)) (fun _ _ _ h => h) (Or.inl ⟨by rfl, ?_⟩) ?_ ?_
     rotate_left
     ·intro w'
      go_simp
      with_reducible rfl
     rotate_left
     ·simp only [Act.put, List.setIfInBounds_toArray, List.set_cons_zero, List.set_cons_succ, i64_w, i32_w]
      rfl
     refine pure_ (i := 11) (N := some 25) (v := ?_) (a' := ?_) #[true, true, true, true, true, true, true, true, true, true, true, true, false, false, false, false, false] rfl rfl (any_of HT_.out (by kernel_rfl)) (fun _ _ _ h => h) (Or.inl ⟨by rfl, ?_⟩) ?_ ?_
     rotate_left
     ·intro w'
      go_simp
      with_reducible rfl
     rotate_left
     ·simp only [Act.put, List.setIfInBounds_toArray, List.set_cons_zero, List.set_cons_succ, i64_w, i32_w]
      rfl
     refine pure_ (i := 12) (N := some 26) (v := undef) (a' := ?_) #[true, true, true, true, true, true, true, true, true, true, true, true, true, false, false, false, false] rfl rfl (any_of HT_.out (by kernel_rfl)) (fun _ _ _ h => h) (Or.inr ⟨by rfl, rfl⟩) ?_ ?_
     rotate_left
     ·simp only [Act.put, List.setIfInBounds_toArray, List.set_cons_zero, List.set_cons_succ, i64_w, i32_w]
      rfl
     refine pure_ (i := 13) (N := some 27) (v := undef) (a' := ?_) #[true, true, true, true, true, true, true, true, true, true, true, true, true, true, false, false, false] rfl rfl (any_of HT_.out (by kernel_rfl)) (fun _ _ _ h => h) (Or.inr ⟨by rfl, rfl⟩) ?_ ?_
     rotate_left
     ·simp only [Act.put, List.setIfInBounds_toArray, List.set_cons_zero, List.set_cons_succ, i64_w, i32_w]
      rfl
     refine pure_ (i := 14) (N := some 28) (v := undef) (a' := ?_) #[true, true, true, true, true, true, true, true, true, true, true, true, true, true, true, false, false] rfl rfl (any_of HT_.out (by kernel_rfl)) (fun _ _ _ h => h) (Or.inr ⟨by rfl, rfl⟩) ?_ ?_
     rotate_left
     ·simp only [Act.put, List.setIfInBounds_toArray, List.set_cons_zero, List.set_cons_succ, i64_w, i32_w]
      rfl
     refine pure_ (i := 15) (N := some 29) (v := undef) (a' := ?_) #[true, true, true, true, true, true, true, true, true, true, true, true, true, true, true, true, false] rfl rfl (any_of HT_.out (by kernel_rfl)) (fun _ _ _ h => h) (Or.inr ⟨by rfl, rfl⟩) ?_ ?_
     rotate_left
     ·simp only [Act.put, List.setIfInBounds_toArray, List.set_cons_zero, List.set_cons_succ, i64_w, i32_w]
      rfl
     refine pure_ (i := 16) (N := some 30) (v := ?_) (a' := ?_) #[true, true, true, true, true, true, true, true, true, true, true, true, true, true, true, true, true] rfl rfl (any_of HT_.out (by kernel_rfl)) (fun _ _ _ h => h) (Or.inl ⟨by rfl, ?_⟩) ?_ ?_
     rotate_left
     ·intro w'
      go_simp
      with_reducible rfl
     rotate_left
     ·simp only [Act.put, List.setIfInBounds_toArray, List.set_cons_zero, List.set_cons_succ, i64_w, i32_w]
      rfl
     refine done_ (done_of HT_.out (by kernel_rfl)) ?_
     try go_wp2
     go_meet
     case rel => exact ⟨_, (true), (by first | rfl | (simp; done) | (simp [*]; done)), H', ⟨by first | omega | exact Nat.le_refl _⟩, ⟨by (with_reducible repeat (first | refine blk_drewN ?_ _ | refine blk_drew ?_ | refine blk_alloc ?_ _)); exact BK322.out⟩, ⟨by (with_reducible repeat (first | refine blk_drewN ?_ _ | refine blk_drew ?_ | refine blk_alloc ?_ _)); exact BK331.out⟩, ⟨by repeat (first | (with_reducible first | exact HB.out | apply below_alloc | apply pw_below_drewN | apply below_drew1 | refine below_set ?_ GE322.out | refine below_set ?_ GE331.out) | exact HB.out)⟩⟩
    ·rw [if_neg c18] at H
     have c18b0 : (!(t333 == t324) || (!(t334 == t325) || (!(t335 == t326) || (!(t336 == t327) || (!(t337.toList == t328.toList) || (!(t338 == t329) || (!(t339 == t330)))))))) = false := by simpa using c18
     clear c18
     replace H := Option.bind_eq_some_iff.mp H
     obtain ⟨t340, A210, H⟩ := H
     replace H : (barrowlaw24_ScriptOpThere.j0 k t332 (t340.toList != t332.toList) t324 t325 t326 t327 t328 t329 t330) = some r := H
     have A21 := Aside0.mk A210
     clear A210
     have H' := Aside0.mk H
     clear H
     try go_wp2
     have n0_ := Aside0.mk (blk_drew BK322.out)
     have n1_ := Aside0.mk (blk_drew BK331.out)
     have n2_ := Aside0.mk (below_drew1 HB.out)
     clear BK322
     clear BK331
     clear HB
     have BK322 := n0_
     have BK331 := n1_
     have HB := n2_
     clear n0_ n1_ n2_
     refine start_ (n := 17) (S := fun w' => w'.cell? ⟨gb331, 0, none⟩ = some (.int .i64 t324) ∧ w'.cell? ⟨gb331, 1, none⟩ = some (.int .i64 t325) ∧ w'.cell? ⟨gb331, 2, none⟩ = some (.int .i64 t326) ∧ w'.cell? ⟨gb331, 3, none⟩ = some (.int .i64 t327) ∧ w'.cell? ⟨gb331, 4, none⟩ = some (.string t328) ∧ w'.cell? ⟨gb331, 5, none⟩ = some (.int .i64 t329) ∧ w'.cell? ⟨gb331, 6, none⟩ = some (.int .i64 t330) ∧ w'.cell? ⟨gb322, 0, none⟩ = some (.int .i64 a0_0) ∧ w'.cell? ⟨gb322, 1, none⟩ = some (.int .i64 a0_1) ∧ w'.cell? ⟨gb322, 2, none⟩ = some (.int .i64 a0_2) ∧ w'.cell? ⟨gb322, 3, none⟩ = some (.int .i64 a0_3) ∧ w'.cell? ⟨gb322, 4, none⟩ = some (.string a0_4) ∧ w'.cell? ⟨gb322, 5, none⟩ = some (.int .i64 a0_5) ∧ w'.cell? ⟨gb322, 6, none⟩ = some (.int .i64 a0_6)) (ds := []) #[false, false, false, false, false, false, false, false, false, false, false, false, false, false, false, false, false] (by kernel_rfl) rfl rfl ⟨(blk_cell BK331.out 0).trans rfl, (blk_cell BK331.out 1).trans rfl, (blk_cell BK331.out 2).trans rfl, (blk_cell BK331.out 3).trans rfl, (blk_cell BK331.out 4).trans rfl, (blk_cell BK331.out 5).trans rfl, (blk_cell BK331.out 6).trans rfl, (blk_cell BK322.out 0).trans rfl, (blk_cell BK322.out 1).trans rfl, (blk_cell BK322.out 2).trans rfl, (blk_cell BK322.out 3).trans rfl, (blk_cell BK322.out 4).trans rfl, (blk_cell BK322.out 5).trans rfl, (blk_cell BK322.out 6).trans rfl⟩ (fun hHeld => ?_); refine with_tabW barrowlaw24_ScriptOpThere.tab5 barrowlaw24_ScriptOpThere.bits5 (fun HT_ HW_ => ?_)
     generalize w15.drew = w22 at BK322 BK331 HB hHeld ⊢
     refine pure_ (i := 0) (N := some 14) (v := ?_) (a' := ?_) #[true, false, false, false, false, false, false, false, false, false, false, false, false, false, false, false, false] rfl rfl (any_of HT_.out (by kernel_rfl)) (fun _ _ _ h => h) (Or.inl ⟨by rfl, ?_⟩) ?_ ?_
     rotate_left
     ·intro w'
      go_simp
      with_reducible rfl
     rotate_left
     ·simp only [Act.put, List.setIfInBounds_toArray, List.set_cons_zero, List.set_cons_succ, i64_w, i32_w]
      rfl
     refine pure_ (i := 2) (N := some 16) (v := ?_) (a' := ?_) #[true, false, true, false, false, false, false, false, false, false, false, false, false, false, false, false, false] rfl rfl (any_of HT_.out (by kernel_rfl)) (fun _ _ _ h => h) (Or.inl ⟨by rfl, ?_⟩) ?_ ?_
     rotate_left
     ·intro w'
      go_simp
      with_reducible rfl
     rotate_left
     ·simp only [Act.put, List.setIfInBounds_toArray, List.set_cons_zero, List.set_cons_succ, i64_w, i32_w]
      rfl
     refine take_ (i := 1) (N := some 15) (v := ?_) (a' := ?_) #[true, true, true, false, false, false, false, false, false, false, false, false, false, false, false, false, false] rfl rfl (take_ofW HT_.out HW_.out (by kernel_rfl)) (fun _ _ _ h => h) (Or.inl ⟨by rfl, ?_⟩) hHeld ?_ ?_
     rotate_left
     ·rintro w' ⟨s0, s1, s2, s3, s4, s5, s6, s7, s8, s9, s10, s11, s12, s13⟩
      go_simp
      with_reducible rfl
     rotate_left
     ·simp only [Act.put, List.setIfInBounds_toArray, List.set_cons_zero, List.set_cons_succ, i64_w, i32_w]
      rfl
     refine take_ (i := 3) (N := some 17) (v := ?_) (a' := ?_) #[true, true, true, true, false, false, false, false, false, false, false, false, false, false, false, false, false] rfl rfl (take_ofW HT_.out HW_.out (by kernel_rfl)) (fun _ _ _ h => h) (Or.inl ⟨by rfl, ?_⟩) hHeld ?_ ?_
     rotate_left
     ·rintro w' ⟨s0, s1, s2, s3, s4, s5, s6, s7, s8, s9, s10, s11, s12, s13⟩
      go_simp
      with_reducible rfl
     rotate_left
     ·simp only [Act.put, List.setIfInBounds_toArray, List.set_cons_zero, List.set_cons_succ, i64_w, i32_w]
      rfl
     refine pure_ (i := 4) (N := some 18) (v := ?_) (a' := ?_) #[true, true, true, true, true, false, false, false, false, false, false, false, false, false, false, false, false] rfl rfl (any_of HT_.out (by kernel_rfl)) (fun _ _ _ h => h) (Or.inl ⟨by rfl, ?_⟩) ?_ ?_
     rotate_left
     ·intro w'
      go_simp
      with_reducible rfl
     rotate_left
     ·simp only [Act.put, List.setIfInBounds_toArray, List.set_cons_zero, List.set_cons_succ, i64_w, i32_w]
      rfl
     refine pure_ (i := 5) (N := some 19) (v := ?_) (a' := ?_) #[true, true, true, true, true, true, false, false, false, false, false, false, false, false, false, false, false] rfl rfl (any_of HT_.out (by kernel_rfl)) (fun _ _ _ h => h) (Or.inl ⟨by rfl, ?_⟩) ?_ ?_
     rotate_left
     ·intro w'
      go_simp
      with_reducible rfl
     rotate_left
     ·simp only [Act.put, List.setIfInBounds_toArray, List.set_cons_zero, List.set_cons_succ, i64_w, i32_w]
      rfl
     refine take_ (i := 6) (N := some 20) (v := ?_) (a' := ?_) #[true, true, true, true, true, true, true, false, false, false, false, false, false, false, false, false, false] rfl rfl (take_ofW HT_.out HW_.out (by kernel_rfl)) (fun _ _ _ h => h) (Or.inl ⟨by rfl, ?_⟩) hHeld ?_ ?_
     rotate_left
     ·rintro w' ⟨s0, s1, s2, s3, s4, s5, s6, s7, s8, s9, s10, s11, s12, s13⟩
      go_simp
      with_reducible rfl
     rotate_left
     ·simp only [Act.put, List.setIfInBounds_toArray, List.set_cons_zero, List.set_cons_succ, i64_w, i32_w]
      rfl
     refine take_ (i := 8) (N := some 22) (v := ?_) (a' := ?_) #[true, true, true, true, true, true, true, false, true, false, false, false, false, false, false, false, false] rfl rfl (take_ofW HT_.out HW_.out (by kernel_rfl)) (fun _ _ _ h => h) (Or.inl ⟨by rfl, ?_⟩) hHeld ?_ ?_
     rotate_left
     ·rintro w' ⟨s0, s1, s2, s3, s4, s5, s6, s7, s8, s9, s10, s11, s12, s13⟩
      go_simp
      with_reducible rfl
     rotate_left
     ·simp only [Act.put, List.setIfInBounds_toArray, List.set_cons_zero, List.set_cons_succ, i64_w, i32_w]
      rfl
     refine one_ (i := 7) (N := some 21) #[true, true, true, true, true, true, true, true, true, false, false, false, false, false, false, false, false] rfl rfl (one_of HT_.out (by kernel_rfl)) (by decide) (fun K hK => ?_)
     refine goes_ Tryd.func20 (by kernel_rfl) rfl #[.agg #[.int .i64 t324, .int .i64 t325, .int .i64 t326, .int .i64 t327, .string t328, .int .i64 t329, .int .i64 t330]] (by rfl) rfl rfl (by (try simp only [List.map_toArray, List.map_cons, List.map_nil]); first | done | rfl | (simp only [List.length_drop, List.length_take]; rfl)) ?_
     with_reducible refine (script_Plain.calls t324 t325 t326 t327 t328 t329 t330 t333 t334 t335 t336 t337 t338 t339 _ A17.out).mono ?_
     rintro e w23 ⟨rfl, hb⟩
     refine ⟨_, rfl, ?_⟩
     have n0_ := Aside0.mk (blk_below (g := gb322) (o := .cells #[.int .i64 a0_0, .int .i64 a0_1, .int .i64 a0_2, .int .i64 a0_3, .string a0_4, .int .i64 a0_5, .int .i64 a0_6] 29 (0, 0)) (by (with_reducible repeat (first | refine blk_drewN ?_ _ | refine blk_drew ?_ | refine blk_alloc ?_ _)); exact BK322.out) hb)
     have n1_ := Aside0.mk (blk_below (g := gb331) (o := .cells #[.int .i64 t324, .int .i64 t325, .int .i64 t326, .int .i64 t327, .string t328, .int .i64 t329, .int .i64 t330] 29 (0, 0)) (by (with_reducible repeat (first | refine blk_drewN ?_ _ | refine blk_drew ?_ | refine blk_alloc ?_ _)); exact BK331.out) hb)
     have n2_ := Aside0.mk (below_step (by repeat (first | (with_reducible first | exact HB.out | apply below_alloc | apply pw_below_drewN | apply below_drew1 | refine below_set ?_ GE322.out | refine below_set ?_ GE331.out) | exact HB.out)) hb)
     clear BK322
     clear BK331
     clear HB
     have BK322 := n0_
     have BK331 := n1_
     have HB := n2_
     clear n0_ n1_ n2_
     (try clear hb)
     (try clear hb2)
     (try clear hk)
     (try clear hi)
     refine hK.out _ _ ⟨(blk_cell BK331.out 0).trans rfl, (blk_cell BK331.out 1).trans rfl, (blk_cell BK331.out 2).trans rfl, (blk_cell BK331.out 3).trans rfl, (blk_cell BK331.out 4).trans rfl, (blk_cell BK331.out 5).trans rfl, (blk_cell BK331.out 6).trans rfl, (blk_cell BK322.out 0).trans rfl, (blk_cell BK322.out 1).trans rfl, (blk_cell BK322.out 2).trans rfl, (blk_cell BK322.out 3).trans rfl, (blk_cell BK322.out 4).trans rfl, (blk_cell BK322.out 5).trans rfl, (blk_cell BK322.out 6).trans rfl⟩ (fun hHeld => ?_)
     clear hK K
     refine norm_ (a' := ?_) ?_ ?_
     rotate_left
     ·show Act.put _ (some 21) _ = _
      simp only [Act.put, List.setIfInBounds_toArray, List.set_cons_zero, List.set_cons_succ, i64_w, i32_w]
      rfl
     refine pure_ (i := 9) (N := some 23) (v := ?_) (a' := ?_) #[true, true, true, true, true, true, true, true, true, true, false, false, false, false, false, false, false] rfl rfl (any_of HT_.out (by kernel_rfl)) (fun _ _ _ h => h) (Or.inl ⟨by rfl, ?_⟩) ?_ ?_
     rotate_left
     ·intro w'
      go_simp
      with_reducible rfl
     rotate_left
     ·simp only [Act.put, List.setIfInBounds_toArray, List.set_cons_zero, List.set_cons_succ, i64_w, i32_w]
      rfl
     refine pure_ (i := 10) (N := some 24) (v := ?_) (a' := ?_) #[true, true, true, true, true, true, true, true, true, true, true, false, false, false, false, false, false] rfl rfl (any_of HT_.out (by kernel_rfl)) (fun _ _ _ h => h) (Or.inl ⟨by rfl, ?_⟩) ?_ ?_
     rotate_left
     ·intro w'
      go_simp
      with_reducible rfl
     rotate_left
     ·simp only [Act.put, List.setIfInBounds_toArray, List.set_cons_zero, List.set_cons_succ, i64_w, i32_w]
      rfl
     refine pure_ (i := 11) (N := some 25) (v := ?_) (a' := ?_) #[true, true, true, true, true, true, true, true, true, true, true, true, false, false, false, false, false] rfl rfl (any_of HT_.out (by kernel_rfl)) (fun _ _ _ h => h) (Or.inl ⟨by rfl, ?_⟩) ?_ ?_
     rotate_left
     ·intro w'
      go_simp
      with_reducible rfl
     rotate_left
     ·simp only [Act.put, List.setIfInBounds_toArray, List.set_cons_zero, List.set_cons_succ, i64_w, i32_w]
      rfl
     refine pure_ (i := 14) (N := some 28) (v := ?_) (a' := ?_) #[true, true, true, true, true, true, true, true, true, true, true, true, false, false, true, false, false] rfl rfl (any_of HT_.out (by kernel_rfl)) (fun _ _ _ h => h) (Or.inl ⟨by rfl, ?_⟩) ?_ ?_
     rotate_left
     ·intro w'
      go_simp
      with_reducible rfl
     rotate_left
     ·simp only [Act.put, List.setIfInBounds_toArray, List.set_cons_zero, List.set_cons_succ, i64_w, i32_w]
      rfl
     refine take_ (i := 12) (N := some 26) (v := ?_) (a' := ?_) #[true, true, true, true, true, true, true, true, true, true, true, true, true, false, true, false, false] rfl rfl (take_ofW HT_.out HW_.out (by kernel_rfl)) (fun _ _ _ h => h) (Or.inl ⟨by rfl, ?_⟩) hHeld ?_ ?_
     rotate_left
     ·rintro w' ⟨s0, s1, s2, s3, s4, s5, s6, s7, s8, s9, s10, s11, s12, s13⟩
      go_simp
      with_reducible rfl
     rotate_left
     ·simp only [Act.put, List.setIfInBounds_toArray, List.set_cons_zero, List.set_cons_succ, i64_w, i32_w]
      rfl
     refine one_ (i := 13) (N := some 27) #[true, true, true, true, true, true, true, true, true, true, true, true, true, true, true, false, false] rfl rfl (one_of HT_.out (by kernel_rfl)) (by decide) (fun K hK => ?_)
     refine goes_ Tryd.func19 (by kernel_rfl) rfl #[.agg #[.int .i64 t324, .int .i64 t325, .int .i64 t326, .int .i64 t327, .string t328, .int .i64 t329, .int .i64 t330]] (by rfl) rfl rfl (by (try simp only [List.map_toArray, List.map_cons, List.map_nil]); first | done | rfl | (simp only [List.length_drop, List.length_take]; rfl)) ?_
     with_reducible refine (script_PrintOp.calls t324 t325 t326 t327 t328 t329 t330 t340 _ ?tab1_ A21.out).mono ?_; (case tab1_ => exact tab_keep hTab (by repeat (first | (with_reducible first | exact HB.out | apply below_alloc | apply pw_below_drewN | apply below_drew1) | exact HB.out | fail)))
     rintro e w24 ⟨rfl, hb⟩
     refine ⟨_, rfl, ?_⟩
     have n0_ := Aside0.mk (blk_below (g := gb322) (o := .cells #[.int .i64 a0_0, .int .i64 a0_1, .int .i64 a0_2, .int .i64 a0_3, .string a0_4, .int .i64 a0_5, .int .i64 a0_6] 29 (0, 0)) (by (with_reducible repeat (first | refine blk_drewN ?_ _ | refine blk_drew ?_ | refine blk_alloc ?_ _)); exact BK322.out) hb)
     have n1_ := Aside0.mk (blk_below (g := gb331) (o := .cells #[.int .i64 t324, .int .i64 t325, .int .i64 t326, .int .i64 t327, .string t328, .int .i64 t329, .int .i64 t330] 29 (0, 0)) (by (with_reducible repeat (first | refine blk_drewN ?_ _ | refine blk_drew ?_ | refine blk_alloc ?_ _)); exact BK331.out) hb)
     have n2_ := Aside0.mk (below_step (by repeat (first | (with_reducible first | exact HB.out | apply below_alloc | apply pw_below_drewN | apply below_drew1 | refine below_set ?_ GE322.out | refine below_set ?_ GE331.out) | exact HB.out)) hb)
     clear BK322
     clear BK331
     clear HB
     have BK322 := n0_
     have BK331 := n1_
     have HB := n2_
     clear n0_ n1_ n2_
     (try clear hb)
     (try clear hb2)
     (try clear hk)
     (try clear hi)
     refine hK.out _ _ ⟨(blk_cell BK331.out 0).trans rfl, (blk_cell BK331.out 1).trans rfl, (blk_cell BK331.out 2).trans rfl, (blk_cell BK331.out 3).trans rfl, (blk_cell BK331.out 4).trans rfl, (blk_cell BK331.out 5).trans rfl, (blk_cell BK331.out 6).trans rfl, (blk_cell BK322.out 0).trans rfl, (blk_cell BK322.out 1).trans rfl, (blk_cell BK322.out 2).trans rfl, (blk_cell BK322.out 3).trans rfl, (blk_cell BK322.out 4).trans rfl, (blk_cell BK322.out 5).trans rfl, (blk_cell BK322.out 6).trans rfl⟩ (fun hHeld => ?_)
     clear hK K
     refine norm_ (a' := ?_) ?_ ?_
     rotate_left
     ·show Act.put _ (some 27) _ = _
      simp only [Act.put, List.setIfInBounds_toArray, List.set_cons_zero, List.set_cons_succ, i64_w, i32_w]
      rfl
     refine pure_ (i := 15) (N := some 29) (v := ?_) (a' := ?_) #[true, true, true, true, true, true, true, true, true, true, true, true, true, true, true, true, false] rfl rfl (any_of HT_.out (by kernel_rfl)) (fun _ _ _ h => h) (Or.inl ⟨by rfl, ?_⟩) ?_ ?_
     rotate_left
     ·intro w'
      go_simp
      with_reducible rfl
     rotate_left
     ·simp only [Act.put, List.setIfInBounds_toArray, List.set_cons_zero, List.set_cons_succ, i64_w, i32_w]
      rfl
     refine pure_ (i := 16) (N := some 30) (v := ?_) (a' := ?_) #[true, true, true, true, true, true, true, true, true, true, true, true, true, true, true, true, true] rfl rfl (any_of HT_.out (by kernel_rfl)) (fun _ _ _ h => h) (Or.inl ⟨by rfl, ?_⟩) ?_ ?_
     rotate_left
     ·intro w'
      go_simp
      with_reducible rfl
     rotate_left
     ·simp only [Act.put, List.setIfInBounds_toArray, List.set_cons_zero, List.set_cons_succ, i64_w, i32_w]
      rfl
     refine done_ (done_of HT_.out (by kernel_rfl)) ?_
     try go_wp2
     go_meet
     case rel => exact ⟨_, ((t340.toList != t332.toList)), (by first | rfl | (simp; done) | (simp [*]; done)), H', ⟨by first | omega | exact Nat.le_refl _⟩, ⟨by (with_reducible repeat (first | refine blk_drewN ?_ _ | refine blk_drew ?_ | refine blk_alloc ?_ _)); exact BK322.out⟩, ⟨by (with_reducible repeat (first | refine blk_drewN ?_ _ | refine blk_drew ?_ | refine blk_alloc ?_ _)); exact BK331.out⟩, ⟨by repeat (first | (with_reducible first | exact HB.out | apply below_alloc | apply pw_below_drewN | apply below_drew1 | refine below_set ?_ GE322.out | refine below_set ?_ GE331.out) | exact HB.out)⟩⟩
   ·rw [if_neg c16] at H
    have c16b0 : (t324 == a0_0) = false := beq_eq_false_iff_ne.mpr c16
    have c16b1 : (t324 != a0_0) = true := bne_iff_ne.mpr c16
    (first | rw [c16b0] | (simp only [i64_w, i32_w]; rw [c16b0]) | skip)
    have H' := Aside0.mk H
    clear H
    try go_wp2
    have n0_ := Aside0.mk (blk_drew BK322.out)
    have n1_ := Aside0.mk (blk_drew BK331.out)
    have n2_ := Aside0.mk (below_drew1 HB.out)
    clear BK322
    clear BK331
    clear HB
    have BK322 := n0_
    have BK331 := n1_
    have HB := n2_
    clear n0_ n1_ n2_
    refine start_ (n := 17) (S := fun w' => w'.cell? ⟨gb331, 0, none⟩ = some (.int .i64 t324) ∧ w'.cell? ⟨gb331, 1, none⟩ = some (.int .i64 t325) ∧ w'.cell? ⟨gb331, 2, none⟩ = some (.int .i64 t326) ∧ w'.cell? ⟨gb331, 3, none⟩ = some (.int .i64 t327) ∧ w'.cell? ⟨gb331, 4, none⟩ = some (.string t328) ∧ w'.cell? ⟨gb331, 5, none⟩ = some (.int .i64 t329) ∧ w'.cell? ⟨gb331, 6, none⟩ = some (.int .i64 t330) ∧ w'.cell? ⟨gb322, 0, none⟩ = some (.int .i64 a0_0) ∧ w'.cell? ⟨gb322, 1, none⟩ = some (.int .i64 a0_1) ∧ w'.cell? ⟨gb322, 2, none⟩ = some (.int .i64 a0_2) ∧ w'.cell? ⟨gb322, 3, none⟩ = some (.int .i64 a0_3) ∧ w'.cell? ⟨gb322, 4, none⟩ = some (.string a0_4) ∧ w'.cell? ⟨gb322, 5, none⟩ = some (.int .i64 a0_5) ∧ w'.cell? ⟨gb322, 6, none⟩ = some (.int .i64 a0_6)) (ds := []) #[false, false, false, false, false, false, false, false, false, false, false, false, false, false, false, false, false] (by kernel_rfl) rfl rfl ⟨(blk_cell BK331.out 0).trans rfl, (blk_cell BK331.out 1).trans rfl, (blk_cell BK331.out 2).trans rfl, (blk_cell BK331.out 3).trans rfl, (blk_cell BK331.out 4).trans rfl, (blk_cell BK331.out 5).trans rfl, (blk_cell BK331.out 6).trans rfl, (blk_cell BK322.out 0).trans rfl, (blk_cell BK322.out 1).trans rfl, (blk_cell BK322.out 2).trans rfl, (blk_cell BK322.out 3).trans rfl, (blk_cell BK322.out 4).trans rfl, (blk_cell BK322.out 5).trans rfl, (blk_cell BK322.out 6).trans rfl⟩ (fun hHeld => ?_); refine with_tabW barrowlaw24_ScriptOpThere.tab5 barrowlaw24_ScriptOpThere.bits5 (fun HT_ HW_ => ?_)
    generalize w15.drew = w25 at BK322 BK331 HB hHeld ⊢
    refine pure_ (i := 0) (N := some 14) (v := ?_) (a' := ?_) #[true, false, false, false, false, false, false, false, false, false, false, false, false, false, false, false, false] rfl rfl (any_of HT_.out (by kernel_rfl)) (fun _ _ _ h => h) (Or.inl ⟨by rfl, ?_⟩) ?_ ?_
    rotate_left
    ·intro w'
     go_simp
     with_reducible rfl
    rotate_left
    ·simp only [Act.put, List.setIfInBounds_toArray, List.set_cons_zero, List.set_cons_succ, i64_w, i32_w]
     rfl
    refine pure_ (i := 2) (N := some 16) (v := ?_) (a' := ?_) #[true, false, true, false, false, false, false, false, false, false, false, false, false, false, false, false, false] rfl rfl (any_of HT_.out (by kernel_rfl)) (fun _ _ _ h => h) (Or.inl ⟨by rfl, ?_⟩) ?_ ?_
    rotate_left
    ·intro w'
     go_simp
     with_reducible rfl
    rotate_left
    ·simp only [Act.put, List.setIfInBounds_toArray, List.set_cons_zero, List.set_cons_succ, i64_w, i32_w]
     rfl
    refine take_ (i := 1) (N := some 15) (v := ?_) (a' := ?_) #[true, true, true, false, false, false, false, false, false, false, false, false, false, false, false, false, false] rfl rfl (take_ofW HT_.out HW_.out (by kernel_rfl)) (fun _ _ _ h => h) (Or.inl ⟨by rfl, ?_⟩) hHeld ?_ ?_
    rotate_left
    ·rintro w' ⟨s0, s1, s2, s3, s4, s5, s6, s7, s8, s9, s10, s11, s12, s13⟩
     go_simp
     with_reducible rfl
    rotate_left
    ·simp only [Act.put, List.setIfInBounds_toArray, List.set_cons_zero, List.set_cons_succ, i64_w, i32_w]
     rfl
    refine take_ (i := 3) (N := some 17) (v := ?_) (a' := ?_) #[true, true, true, true, false, false, false, false, false, false, false, false, false, false, false, false, false] rfl rfl (take_ofW HT_.out HW_.out (by kernel_rfl)) (fun _ _ _ h => h) (Or.inl ⟨by rfl, ?_⟩) hHeld ?_ ?_
    rotate_left
    ·rintro w' ⟨s0, s1, s2, s3, s4, s5, s6, s7, s8, s9, s10, s11, s12, s13⟩
     go_simp
     with_reducible rfl
    rotate_left
    ·simp only [Act.put, List.setIfInBounds_toArray, List.set_cons_zero, List.set_cons_succ, i64_w, i32_w]
     rfl
    refine pure_ (i := 4) (N := some 18) (v := ?_) (a' := ?_) #[true, true, true, true, true, false, false, false, false, false, false, false, false, false, false, false, false] rfl rfl (any_of HT_.out (by kernel_rfl)) (fun _ _ _ h => h) (Or.inl ⟨by rfl, ?_⟩) ?_ ?_
    rotate_left
    ·intro w'
     go_simp
     with_reducible rfl
    rotate_left
    ·simp only [Act.put, List.setIfInBounds_toArray, List.set_cons_zero, List.set_cons_succ, i64_w, i32_w]
     rfl
    refine pure_ (i := 5) (N := some 19) (v := ?_) (a' := ?_) #[true, true, true, true, true, true, false, false, false, false, false, false, false, false, false, false, false] rfl rfl (any_of HT_.out (by kernel_rfl)) (fun _ _ _ h => h) (Or.inl ⟨by rfl, ?_⟩) ?_ ?_
    rotate_left
    ·intro w'
     go_simp
     with_reducible rfl
    rotate_left
    ·simp only [Act.put, List.setIfInBounds_toArray, List.set_cons_zero, List.set_cons_succ, i64_w, i32_w]
     rfl
    refine pure_ (i := 6) (N := some 20) (v := undef) (a' := ?_) #[true, true, true, true, true, true, true, false, false, false, false, false, false, false, false, false, false] rfl rfl (any_of HT_.out (by kernel_rfl)) (fun _ _ _ h => h) (Or.inr ⟨by rfl, rfl⟩) ?_ ?_
    rotate_left
    ·simp only [Act.put, List.setIfInBounds_toArray, List.set_cons_zero, List.set_cons_succ, i64_w, i32_w]
     rfl
    refine pure_ (i := 7) (N := some 21) (v := undef) (a' := ?_) #[true, true, true, true, true, true, true, true, false, false, false, false, false, false, false, false, false] rfl rfl (any_of HT_.out (by kernel_rfl)) (fun _ _ _ h => h) (Or.inr ⟨by rfl, rfl⟩) ?_ ?_
    rotate_left
    ·simp only [Act.put, List.setIfInBounds_toArray, List.set_cons_zero, List.set_cons_succ, i64_w, i32_w]
     rfl
    refine pure_ (i := 8) (N := some 22) (v := undef) (a' := ?_) #[true, true, true, true, true, true, true, true, true, false, false, false, false, false, false, false, false] rfl rfl (any_of HT_.out (by kernel_rfl)) (fun _ _ _ h => h) (Or.inr ⟨by rfl, rfl⟩) ?_ ?_
    rotate_left
    ·simp only [Act.put, List.setIfInBounds_toArray, List.set_cons_zero, List.set_cons_succ, i64_w, i32_w]
     rfl
    refine pure_ (i := 9) (N := some 23) (v := undef) (a' := ?_) #[true, true, true, true, true, true, true, true, true, true, false, false, false, false, false, false, false] rfl rfl (any_of HT_.out (by kernel_rfl)) (fun _ _ _ h => h) (Or.inr ⟨by rfl, rfl⟩) ?_ ?_
    rotate_left
    ·simp only [Act.put, List.setIfInBounds_toArray, List.set_cons_zero, List.set_cons_succ, i64_w, i32_w]
     rfl
    refine pure_ (i := 10) (N := some 24) (v := ?_) (a' := ?_) #[true, true, true, true, true, true, true, true, true, true, true, false, false, false, false, false, false] rfl rfl (any_of HT_.out (by kernel_rfl)) (fun _ _ _ h => h) (Or.inl ⟨by rfl, ?_⟩) ?_ ?_
    rotate_left
    ·intro w'
     go_simp
     with_reducible rfl
    rotate_left
    ·simp only [Act.put, List.setIfInBounds_toArray, List.set_cons_zero, List.set_cons_succ, i64_w, i32_w]
     rfl
    refine pure_ (i := 11) (N := some 25) (v := ?_) (a' := ?_) #[true, true, true, true, true, true, true, true, true, true, true, true, false, false, false, false, false] rfl rfl (any_of HT_.out (by kernel_rfl)) (fun _ _ _ h => h) (Or.inl ⟨by rfl, ?_⟩) ?_ ?_
    rotate_left
    ·intro w'
     go_simp
     with_reducible rfl
    rotate_left
    ·simp only [Act.put, List.setIfInBounds_toArray, List.set_cons_zero, List.set_cons_succ, i64_w, i32_w]
     rfl
    refine pure_ (i := 12) (N := some 26) (v := undef) (a' := ?_) #[true, true, true, true, true, true, true, true, true, true, true, true, true, false, false, false, false] rfl rfl (any_of HT_.out (by kernel_rfl)) (fun _ _ _ h => h) (Or.inr ⟨by rfl, rfl⟩) ?_ ?_
    rotate_left
    ·simp only [Act.put, List.setIfInBounds_toArray, List.set_cons_zero, List.set_cons_succ, i64_w, i32_w]
     rfl
    refine pure_ (i := 13) (N := some 27) (v := undef) (a' := ?_) #[true, true, true, true, true, true, true, true, true, true, true, true, true, true, false, false, false] rfl rfl (any_of HT_.out (by kernel_rfl)) (fun _ _ _ h => h) (Or.inr ⟨by rfl, rfl⟩) ?_ ?_
    rotate_left
    ·simp only [Act.put, List.setIfInBounds_toArray, List.set_cons_zero, List.set_cons_succ, i64_w, i32_w]
     rfl
    refine pure_ (i := 14) (N := some 28) (v := undef) (a' := ?_) #[true, true, true, true, true, true, true, true, true, true, true, true, true, true, true, false, false] rfl rfl (any_of HT_.out (by kernel_rfl)) (fun _ _ _ h => h) (Or.inr ⟨by rfl, rfl⟩) ?_ ?_
    rotate_left
    ·simp only [Act.put, List.setIfInBounds_toArray, List.set_cons_zero, List.set_cons_succ, i64_w, i32_w]
     rfl
    refine pure_ (i := 15) (N := some 29) (v := undef) (a' := ?_) #[true, true, true, true, true, true, true, true, true, true, true, true, true, true, true, true, false] rfl rfl (any_of HT_.out (by kernel_rfl)) (fun _ _ _ h => h) (Or.inr ⟨by rfl, rfl⟩) ?_ ?_
    rotate_left
    ·simp only [Act.put, List.setIfInBounds_toArray, List.set_cons_zero, List.set_cons_succ, i64_w, i32_w]
     rfl
    refine pure_ (i := 16) (N := some 30) (v := ?_) (a' := ?_) #[true, true, true, true, true, true, true, true, true, true, true, true, true, true, true, true, true] rfl rfl (any_of HT_.out (by kernel_rfl)) (fun _ _ _ h => h) (Or.inl ⟨by rfl, ?_⟩) ?_ ?_
    rotate_left
    ·intro w'
     go_simp
     with_reducible rfl
    rotate_left
    ·simp only [Act.put, List.setIfInBounds_toArray, List.set_cons_zero, List.set_cons_succ, i64_w, i32_w]
     rfl
    refine done_ (done_of HT_.out (by kernel_rfl)) ?_
    try go_wp2
    go_meet
    case rel => exact ⟨_, (true), (by first | rfl | (simp; done) | (simp [*]; done)), H', ⟨by first | omega | exact Nat.le_refl _⟩, ⟨by (with_reducible repeat (first | refine blk_drewN ?_ _ | refine blk_drew ?_ | refine blk_alloc ?_ _)); exact BK322.out⟩, ⟨by (with_reducible repeat (first | refine blk_drewN ?_ _ | refine blk_drew ?_ | refine blk_alloc ?_ _)); exact BK331.out⟩, ⟨by repeat (first | (with_reducible first | exact HB.out | apply below_alloc | apply pw_below_drewN | apply below_drew1 | refine below_set ?_ GE322.out | refine below_set ?_ GE331.out) | exact HB.out)⟩⟩
  case rest =>
   clear HC6
   try clear c1
   try clear c2
   try clear p2
   try clear c3
   try clear c6
   try clear c12
   try clear c16
   try clear c16b0
   try clear c16b1
   try clear c18
   try clear c18b0
   try clear c19
   try clear c20
   try clear hcz13_0
   try clear hcz13_1
   try clear hcz13_2
   try clear hcz13_3
   try clear hcz13_4
   try clear hcz13_5
   try clear hcz13_6
   try clear hcz14_0
   try clear hcz14_1
   try clear hcz14_2
   try clear hcz14_3
   try clear hcz14_4
   try clear hcz14_5
   try clear hcz14_6
   try clear hcz9_0
   try clear hcz9_1
   try clear hcz9_2
   try clear hcz9_3
   try clear hcz9_4
   try clear hcz9_5
   try clear hcz9_6
   try clear hfz13_0
   try clear hfz13_1
   try clear hfz13_2
   try clear hfz13_3
   try clear hfz13_4
   try clear hfz13_5
   try clear hfz13_6
   try clear hfz14_0
   try clear hfz14_1
   try clear hfz14_2
   try clear hfz14_3
   try clear hfz14_4
   try clear hfz14_5
   try clear hfz14_6
   try clear hfz9_0
   try clear hfz9_1
   try clear hfz9_2
   try clear hfz9_3
   try clear hfz9_4
   try clear hfz9_5
   try clear hfz9_6
   obtain ⟨kq, x30_5, rfl, HA, HJ5, BK322, BK331, HB⟩ := hcut
   cases kq with
   | zero => exact absurd HA.out (by simp [barrowlaw24_ScriptOpThere.j0])
   | succ kj5 =>
    have H := HA.out
    clear HA
    simp only [barrowlaw24_ScriptOpThere.j0] at H
    by_cases c26 : x30_5 = true
    ·subst c26
     have H1 : (some false) = some r := by rw [if_pos rfl] at H; exact H
     clear H
     have H := H1
     clear H1
     obtain rfl := Option.some.inj H
     go_wp2
     go_ret
     exact ⟨by first | rfl | (simp [errW_none, errW_some] <;> rfl) | (simp [*, errW_none, errW_some] <;> rfl), by repeat (first | (with_reducible first | exact HB.out | apply below_alloc | apply pw_below_drewN | apply below_drew1 | refine below_set ?_ GE322.out | refine below_set ?_ GE331.out) | exact HB.out)⟩
    ·replace c26 := Bool.eq_false_iff.mpr c26
     subst c26
     have H1 : (barrowlaw24_ScriptOpThere.l0 kj5 t332 0 t324 t325 t326 t327 t328 t329 t330) = some r := by rw [if_neg (show ¬ (false = true) by decide)] at H; exact H
     clear H
     have H := H1
     clear H1
     have H' := Aside0.mk H
     clear H
     go_wp2
     go_loopg [5] kj5 (fun kq v5 w' => ∃ (x5_2 : Int), v5 = .int .i64 x5_2 ∧ Aside0 (barrowlaw24_ScriptOpThere.l0 kq t332 x5_2 t324 t325 t326 t327 t328 t329 t330 = some r) ∧ Aside0 (kq ≤ kj5) ∧ Aside0 (w'.heap[gb322]? = some (.cells #[.int .i64 a0_0, .int .i64 a0_1, .int .i64 a0_2, .int .i64 a0_3, .string a0_4, .int .i64 a0_5, .int .i64 a0_6] 29 (0, 0))) ∧ Aside0 (w'.heap[gb331]? = some (.cells #[.int .i64 t324, .int .i64 t325, .int .i64 t326, .int .i64 t327, .string t328, .int .i64 t329, .int .i64 t330] 29 (0, 0))) ∧ Aside0 (Below w.heap.size w w'))
     case atStart => exact ⟨(0), (by first | rfl | (simp; done) | (simp [*]; done)), H', ⟨Nat.le_refl _⟩, ⟨by (with_reducible repeat (first | refine blk_drewN ?_ _ | refine blk_drew ?_ | refine blk_alloc ?_ _)); exact BK322.out⟩, ⟨by (with_reducible repeat (first | refine blk_drewN ?_ _ | refine blk_drew ?_ | refine blk_alloc ?_ _)); exact BK331.out⟩, ⟨by repeat (first | (with_reducible first | exact HB.out | apply below_alloc | apply pw_below_drewN | apply below_drew1 | refine below_set ?_ GE322.out | refine below_set ?_ GE331.out) | exact HB.out)⟩⟩
     case round =>
      clear H'
      try clear c1
      try clear c2
      try clear p2
      try clear c3
      try clear c6
      try clear c12
      try clear c16
      try clear c16b0
      try clear c16b1
      try clear c18
      try clear c18b0
      try clear c19
      try clear c20
      try clear c26
      try clear hcz13_0
      try clear hcz13_1
      try clear hcz13_2
      try clear hcz13_3
      try clear hcz13_4
      try clear hcz13_5
      try clear hcz13_6
      try clear hcz14_0
      try clear hcz14_1
      try clear hcz14_2
      try clear hcz14_3
      try clear hcz14_4
      try clear hcz14_5
      try clear hcz14_6
      try clear hcz9_0
      try clear hcz9_1
      try clear hcz9_2
      try clear hcz9_3
      try clear hcz9_4
      try clear hcz9_5
      try clear hcz9_6
      try clear hfz13_0
      try clear hfz13_1
      try clear hfz13_2
      try clear hfz13_3
      try clear hfz13_4
      try clear hfz13_5
      try clear hfz13_6
      try clear hfz14_0
      try clear hfz14_1
      try clear hfz14_2
      try clear hfz14_3
      try clear hfz14_4
      try clear hfz14_5
      try clear hfz14_6
      try clear hfz9_0
      try clear hfz9_1
      try clear hfz9_2
      try clear hfz9_3
      try clear hfz9_4
      try clear hfz9_5
      try clear hfz9_6
      try clear p2
      obtain ⟨x5_2, rfl, HA, HK2, BK322, BK331, HB⟩ := hrel
      cases gk with
      | zero => exact absurd HA.out (by simp [barrowlaw24_ScriptOpThere.l0])
      | succ k2 =>
       have H := HA.out
       clear HA
       simp only [barrowlaw24_ScriptOpThere.l0] at H
       by_cases c27 : x5_2 < (t332.size : Int)
       ·rw [if_pos c27] at H
        have c27b0 : decide (x5_2 < (t332.size : Int)) = true := decide_eq_true c27
        clear c27
        by_cases c28 : 0 ≤ x5_2
        ·rw [if_pos c28] at H
         have c28b0 : decide (0 ≤ x5_2) = true := decide_eq_true c28
         clear c28
         by_cases c30 : (bt t332 x5_2) < 32
         ·rw [if_pos c30] at H
          have c30b0 : decide ((bt t332 x5_2) < 32) = true := decide_eq_true c30
          clear c30
          obtain rfl := Option.some.inj H
          have p29 : 0 ≤ (x5_2 : Int) := of_decide_eq_true (by first | (with_reducible assumption) | assumption)
          have q29 : x5_2 < (t332.size : Int) := of_decide_eq_true (by first | (with_reducible assumption) | assumption)
          have hx29 := bt_at t332 x5_2
          replace p29 := eq_true p29
          replace q29 := eq_true q29
          go_wp2
          go_ret
          exact ⟨by first | rfl | (simp [errW_none, errW_some] <;> rfl) | (simp [*, errW_none, errW_some] <;> rfl), by repeat (first | (with_reducible first | exact HB.out | apply below_alloc | apply pw_below_drewN | apply below_drew1 | refine below_set ?_ GE322.out | refine below_set ?_ GE331.out) | exact HB.out)⟩
         ·rw [if_neg c30] at H
          have c30b0 : decide ((bt t332 x5_2) < 32) = false := decide_eq_false c30
          clear c30
          by_cases c32 : (bt t332 x5_2) > 126
          ·rw [if_pos c32] at H
           have c32b0 : decide (126 < (bt t332 x5_2)) = true := decide_eq_true c32
           clear c32
           obtain rfl := Option.some.inj H
           have p29 : 0 ≤ (x5_2 : Int) := of_decide_eq_true (by first | (with_reducible assumption) | assumption)
           have q29 : x5_2 < (t332.size : Int) := of_decide_eq_true (by first | (with_reducible assumption) | assumption)
           have hx29 := bt_at t332 x5_2
           replace p29 := eq_true p29
           replace q29 := eq_true q29
           have p31 : 0 ≤ (x5_2 : Int) := of_decide_eq_true (by first | (with_reducible assumption) | assumption)
           have q31 : x5_2 < (t332.size : Int) := of_decide_eq_true (by first | (with_reducible assumption) | assumption)
           have hx31 := bt_at t332 x5_2
           replace p31 := eq_true p31
           replace q31 := eq_true q31
           go_wp2
           go_ret
           exact ⟨by first | rfl | (simp [errW_none, errW_some] <;> rfl) | (simp [*, errW_none, errW_some] <;> rfl), by repeat (first | (with_reducible first | exact HB.out | apply below_alloc | apply pw_below_drewN | apply below_drew1 | refine below_set ?_ GE322.out | refine below_set ?_ GE331.out) | exact HB.out)⟩
          ·rw [if_neg c32] at H
           have c32b0 : decide (126 < (bt t332 x5_2)) = false := decide_eq_false c32
           clear c32
           have H' := Aside0.mk H
           clear H
           have p29 : 0 ≤ (x5_2 : Int) := of_decide_eq_true (by first | (with_reducible assumption) | assumption)
           have q29 : x5_2 < (t332.size : Int) := of_decide_eq_true (by first | (with_reducible assumption) | assumption)
           have hx29 := bt_at t332 x5_2
           replace p29 := eq_true p29
           replace q29 := eq_true q29
           have p31 : 0 ≤ (x5_2 : Int) := of_decide_eq_true (by first | (with_reducible assumption) | assumption)
           have q31 : x5_2 < (t332.size : Int) := of_decide_eq_true (by first | (with_reducible assumption) | assumption)
           have hx31 := bt_at t332 x5_2
           replace p31 := eq_true p31
           replace q31 := eq_true q31
           go_wp2
           go_roundg k2
           case measure => have := HJ5.out; have := HK2.out; omega
           case rel => exact ⟨(wrap64 (x5_2 + 1)), (by first | rfl | (simp; done) | (simp [*]; done)), H', ⟨by have := HJ5.out; have := HK2.out; omega⟩, ⟨by (with_reducible repeat (first | refine blk_drewN ?_ _ | refine blk_drew ?_ | refine blk_alloc ?_ _)); exact BK322.out⟩, ⟨by (with_reducible repeat (first | refine blk_drewN ?_ _ | refine blk_drew ?_ | refine blk_alloc ?_ _)); exact BK331.out⟩, ⟨by repeat (first | (with_reducible first | exact HB.out | apply below_alloc | apply pw_below_drewN | apply below_drew1 | refine below_set ?_ GE322.out | refine below_set ?_ GE331.out) | exact HB.out)⟩⟩
        ·rw [if_neg c28] at H
         exact absurd H (by simp)
       ·rw [if_neg c27] at H
        have c27b0 : decide (x5_2 < (t332.size : Int)) = false := decide_eq_false c27
        clear c27
        replace H := Option.bind_eq_some_iff.mp H
        obtain ⟨⟨t341, t342, t343, t344, t345, t346, t347, t348⟩, A330, H⟩ := H
        replace H : (if t348 = 0 then (some (t341 == t324 && (t342 == t325 && (t343 == t326 && (t344 == t327 && (t345.toList == t328.toList && (t346 == t329 && (t347 == t330)))))))) else (some false)) = some r := H
        have A33 := Aside0.mk A330
        clear A330
        by_cases c34 : t348 = 0
        ·rw [if_pos c34] at H
         have c34b0 : (t348 == 0) = true := beq_iff_eq.mpr c34
         have c34b1 : (t348 != 0) = false := bne_eq_false_iff_eq.mpr c34
         clear c34
         obtain rfl := Option.some.inj H
         go_wp2_with (first | ((with_reducible refine gate_callee (f := 17) rfl ?_); refine goesL_ (some 49) rfl rfl Tryd.func17 (by kernel_rfl) rfl #[.string t332] rfl (by (try simp only [List.map_toArray, List.map_cons, List.map_nil]); first | done | rfl | (simp only [List.length_drop, List.length_take]; rfl)) ?_; (with_reducible refine (script_ParseOp.calls k2 t332 t341 t342 t343 t344 t345 t346 t347 t348 _ ?tab1_ ?tab2_ A33.out).mono ?_); (case tab1_ => exact tab_keep hTab (by repeat (first | (with_reducible first | exact HB.out | apply below_alloc | apply pw_below_drewN | apply below_drew1) | (with_reducible refine below_set ?_ GE322.out) | (with_reducible refine below_set ?_ GE331.out) | (with_reducible refine below_set ?_ GE349.out) | exact HB.out))); (case tab2_ => exact tabE_keep hTabE (by repeat (first | (with_reducible first | exact HB.out | apply below_alloc | apply pw_below_drewN | apply below_drew1) | (with_reducible refine below_set ?_ GE322.out) | (with_reducible refine below_set ?_ GE331.out) | (with_reducible refine below_set ?_ GE349.out) | exact HB.out))); rintro e w35 ⟨rfl, hb⟩; refine ⟨_, rfl, ?_⟩; have n0_ := Aside0.mk (blk_below (g := gb322) (o := .cells #[.int .i64 a0_0, .int .i64 a0_1, .int .i64 a0_2, .int .i64 a0_3, .string a0_4, .int .i64 a0_5, .int .i64 a0_6] 29 (0, 0)) (by (with_reducible repeat (first | refine blk_drewN ?_ _ | refine blk_drew ?_ | refine blk_alloc ?_ _)); exact BK322.out) hb); have n1_ := Aside0.mk (blk_below (g := gb331) (o := .cells #[.int .i64 t324, .int .i64 t325, .int .i64 t326, .int .i64 t327, .string t328, .int .i64 t329, .int .i64 t330] 29 (0, 0)) (by (with_reducible repeat (first | refine blk_drewN ?_ _ | refine blk_drew ?_ | refine blk_alloc ?_ _)); exact BK331.out) hb); have n2_ := Aside0.mk (below_step (by repeat (first | (with_reducible first | exact HB.out | apply below_alloc | apply pw_below_drewN | apply below_drew1 | refine below_set ?_ GE322.out | refine below_set ?_ GE331.out) | exact HB.out)) hb); clear BK322; clear BK331; clear HB; have BK322 := n0_; have BK331 := n1_; have HB := n2_; clear n0_ n1_ n2_; (try clear hb); (try clear hb2); (try clear hk); (try clear hi)) | ((with_reducible refine gate_dst (N := 6) rfl ?_); refine box_event ?hg (N := 6) ?hd (cs := #[.int .i64 0, .int .i64 0, .int .i64 0, .int .i64 0, .string (⟨#[]⟩ : ByteArray), .int .i64 0, .int .i64 0]) (t := 29) ?hr ?_; (case hd => rfl); (case hg => rfl); (case hr => first | (go_simp; done) | (go_simp; rfl)); intro gb349 hg w36 hbox hb; have n0_ := Aside0.mk (blk_below (g := gb322) (o := .cells #[.int .i64 a0_0, .int .i64 a0_1, .int .i64 a0_2, .int .i64 a0_3, .string a0_4, .int .i64 a0_5, .int .i64 a0_6] 29 (0, 0)) (by (with_reducible repeat (first | refine blk_drewN ?_ _ | refine blk_drew ?_ | refine blk_alloc ?_ _)); exact BK322.out) hb); have n1_ := Aside0.mk (blk_below (g := gb331) (o := .cells #[.int .i64 t324, .int .i64 t325, .int .i64 t326, .int .i64 t327, .string t328, .int .i64 t329, .int .i64 t330] 29 (0, 0)) (by (with_reducible repeat (first | refine blk_drewN ?_ _ | refine blk_drew ?_ | refine blk_alloc ?_ _)); exact BK331.out) hb); have n2_ := Aside0.mk (below_step (by repeat (first | (with_reducible first | exact HB.out | apply below_alloc | apply pw_below_drewN | apply below_drew1 | refine below_set ?_ GE322.out | refine below_set ?_ GE331.out) | exact HB.out)) hb); have n3_ := Aside0.mk (hbox); have n4_ := Aside0.mk ((by rw [hg]; exact (below_size (by repeat (first | (with_reducible first | exact HB.out | apply below_alloc | apply pw_below_drewN | apply below_drew1 | refine below_set ?_ GE322.out | refine below_set ?_ GE331.out) | exact HB.out))) : w.heap.size ≤ gb349)); have n5_ := Aside0.mk ((by rw [hg]; exact (below_size (by repeat (first | (with_reducible first | exact HB.out | apply below_alloc | apply pw_below_drewN | apply below_drew1 | refine below_set ?_ GE322.out | refine below_set ?_ GE331.out) | exact HB.out))) : w.heap.size ≤ gb349)); have n6_ := Aside0.mk ((by rw [hg]; exact Nat.ne_of_lt (blk_lt (g := gb322) (o := .cells #[.int .i64 a0_0, .int .i64 a0_1, .int .i64 a0_2, .int .i64 a0_3, .string a0_4, .int .i64 a0_5, .int .i64 a0_6] 29 (0, 0)) (by (with_reducible repeat (first | refine blk_drewN ?_ _ | refine blk_drew ?_ | refine blk_alloc ?_ _)); exact BK322.out)) : gb322 ≠ gb349)); have n7_ := Aside0.mk ((by rw [hg]; exact Nat.ne_of_gt (blk_lt (g := gb322) (o := .cells #[.int .i64 a0_0, .int .i64 a0_1, .int .i64 a0_2, .int .i64 a0_3, .string a0_4, .int .i64 a0_5, .int .i64 a0_6] 29 (0, 0)) (by (with_reducible repeat (first | refine blk_drewN ?_ _ | refine blk_drew ?_ | refine blk_alloc ?_ _)); exact BK322.out)) : gb349 ≠ gb322)); have n8_ := Aside0.mk ((by rw [hg]; exact Nat.ne_of_lt (blk_lt (g := gb331) (o := .cells #[.int .i64 t324, .int .i64 t325, .int .i64 t326, .int .i64 t327, .string t328, .int .i64 t329, .int .i64 t330] 29 (0, 0)) (by (with_reducible repeat (first | refine blk_drewN ?_ _ | refine blk_drew ?_ | refine blk_alloc ?_ _)); exact BK331.out)) : gb331 ≠ gb349)); have n9_ := Aside0.mk ((by rw [hg]; exact Nat.ne_of_gt (blk_lt (g := gb331) (o := .cells #[.int .i64 t324, .int .i64 t325, .int .i64 t326, .int .i64 t327, .string t328, .int .i64 t329, .int .i64 t330] 29 (0, 0)) (by (with_reducible repeat (first | refine blk_drewN ?_ _ | refine blk_drew ?_ | refine blk_alloc ?_ _)); exact BK331.out)) : gb349 ≠ gb331)); clear BK322; clear BK331; clear HB; have BK322 := n0_; have BK331 := n1_; have HB := n2_; have BK349 := n3_; have GW349 := n4_; have GE349 := n5_; have NB322_349 := n6_; have NB349_322 := n7_; have NB331_349 := n8_; have NB349_331 := n9_; clear n0_ n1_ n2_ n3_ n4_ n5_ n6_ n7_ n8_ n9_; clear hb hbox hg; have hnb37 := NB349_322.out; have hnc37 := NB322_349.out; have hnb38 := NB349_331.out; have hnc38 := NB331_349.out; have hcz39_0 : w36.cell? ⟨gb349, 0, none⟩ = some (.int .i64 0) := (blk_cell BK349.out 0).trans rfl; have hcz39_1 : w36.cell? ⟨gb349, 1, none⟩ = some (.int .i64 0) := (blk_cell BK349.out 1).trans rfl; have hcz39_2 : w36.cell? ⟨gb349, 2, none⟩ = some (.int .i64 0) := (blk_cell BK349.out 2).trans rfl; have hcz39_3 : w36.cell? ⟨gb349, 3, none⟩ = some (.int .i64 0) := (blk_cell BK349.out 3).trans rfl; have hcz39_4 : w36.cell? ⟨gb349, 4, none⟩ = some (.string (⟨#[]⟩ : ByteArray)) := (blk_cell BK349.out 4).trans rfl; have hcz39_5 : w36.cell? ⟨gb349, 5, none⟩ = some (.int .i64 0) := (blk_cell BK349.out 5).trans rfl; have hcz39_6 : w36.cell? ⟨gb349, 6, none⟩ = some (.int .i64 0) := (blk_cell BK349.out 6).trans rfl; have hfz39_0 := blk_frozen BK349.out 0; have hfz39_1 := blk_frozen BK349.out 1; have hfz39_2 := blk_frozen BK349.out 2; have hfz39_3 := blk_frozen BK349.out 3; have hfz39_4 := blk_frozen BK349.out 4; have hfz39_5 := blk_frozen BK349.out 5; have hfz39_6 := blk_frozen BK349.out 6; have hnb40 := NB331_322.out; have hnc40 := NB322_331.out; have hcz41_0 : w36.cell? ⟨gb331, 0, none⟩ = some (.int .i64 t324) := (blk_cell BK331.out 0).trans rfl; have hcz41_1 : w36.cell? ⟨gb331, 1, none⟩ = some (.int .i64 t325) := (blk_cell BK331.out 1).trans rfl; have hcz41_2 : w36.cell? ⟨gb331, 2, none⟩ = some (.int .i64 t326) := (blk_cell BK331.out 2).trans rfl; have hcz41_3 : w36.cell? ⟨gb331, 3, none⟩ = some (.int .i64 t327) := (blk_cell BK331.out 3).trans rfl; have hcz41_4 : w36.cell? ⟨gb331, 4, none⟩ = some (.string t328) := (blk_cell BK331.out 4).trans rfl; have hcz41_5 : w36.cell? ⟨gb331, 5, none⟩ = some (.int .i64 t329) := (blk_cell BK331.out 5).trans rfl; have hcz41_6 : w36.cell? ⟨gb331, 6, none⟩ = some (.int .i64 t330) := (blk_cell BK331.out 6).trans rfl; have hfz41_0 := blk_frozen BK331.out 0; have hfz41_1 := blk_frozen BK331.out 1; have hfz41_2 := blk_frozen BK331.out 2; have hfz41_3 := blk_frozen BK331.out 3; have hfz41_4 := blk_frozen BK331.out 4; have hfz41_5 := blk_frozen BK331.out 5; have hfz41_6 := blk_frozen BK331.out 6))
         go_ret
         exact ⟨by first | rfl | (simp [errW_none, errW_some] <;> rfl) | (simp [*, errW_none, errW_some] <;> rfl), by repeat (first | (with_reducible first | exact HB.out | apply below_alloc | apply pw_below_drewN | apply below_drew1 | refine below_set ?_ GE322.out | refine below_set ?_ GE331.out | refine below_set ?_ GE349.out) | exact HB.out)⟩
        ·rw [if_neg c34] at H
         have c34b0 : (t348 == 0) = false := beq_eq_false_iff_ne.mpr c34
         have c34b1 : (t348 != 0) = true := bne_iff_ne.mpr c34
         obtain rfl := Option.some.inj H
         go_wp2_with (first | ((with_reducible refine gate_callee (f := 17) rfl ?_); refine goesL_ (some 49) rfl rfl Tryd.func17 (by kernel_rfl) rfl #[.string t332] rfl (by (try simp only [List.map_toArray, List.map_cons, List.map_nil]); first | done | rfl | (simp only [List.length_drop, List.length_take]; rfl)) ?_; (with_reducible refine (script_ParseOp.calls k2 t332 t341 t342 t343 t344 t345 t346 t347 t348 _ ?tab1_ ?tab2_ A33.out).mono ?_); (case tab1_ => exact tab_keep hTab (by repeat (first | (with_reducible first | exact HB.out | apply below_alloc | apply pw_below_drewN | apply below_drew1) | (with_reducible refine below_set ?_ GE322.out) | (with_reducible refine below_set ?_ GE331.out) | (with_reducible refine below_set ?_ GE349.out) | exact HB.out))); (case tab2_ => exact tabE_keep hTabE (by repeat (first | (with_reducible first | exact HB.out | apply below_alloc | apply pw_below_drewN | apply below_drew1) | (with_reducible refine below_set ?_ GE322.out) | (with_reducible refine below_set ?_ GE331.out) | (with_reducible refine below_set ?_ GE349.out) | exact HB.out))); rintro e w42 ⟨rfl, hb⟩; refine ⟨_, rfl, ?_⟩; have n0_ := Aside0.mk (blk_below (g := gb322) (o := .cells #[.int .i64 a0_0, .int .i64 a0_1, .int .i64 a0_2, .int .i64 a0_3, .string a0_4, .int .i64 a0_5, .int .i64 a0_6] 29 (0, 0)) (by (with_reducible repeat (first | refine blk_drewN ?_ _ | refine blk_drew ?_ | refine blk_alloc ?_ _)); exact BK322.out) hb); have n1_ := Aside0.mk (blk_below (g := gb331) (o := .cells #[.int .i64 t324, .int .i64 t325, .int .i64 t326, .int .i64 t327, .string t328, .int .i64 t329, .int .i64 t330] 29 (0, 0)) (by (with_reducible repeat (first | refine blk_drewN ?_ _ | refine blk_drew ?_ | refine blk_alloc ?_ _)); exact BK331.out) hb); have n2_ := Aside0.mk (below_step (by repeat (first | (with_reducible first | exact HB.out | apply below_alloc | apply pw_below_drewN | apply below_drew1 | refine below_set ?_ GE322.out | refine below_set ?_ GE331.out) | exact HB.out)) hb); clear BK322; clear BK331; clear HB; have BK322 := n0_; have BK331 := n1_; have HB := n2_; clear n0_ n1_ n2_; (try clear hb); (try clear hb2); (try clear hk); (try clear hi)) | ((with_reducible refine gate_dst (N := 6) rfl ?_); refine box_event ?hg (N := 6) ?hd (cs := #[.int .i64 0, .int .i64 0, .int .i64 0, .int .i64 0, .string (⟨#[]⟩ : ByteArray), .int .i64 0, .int .i64 0]) (t := 29) ?hr ?_; (case hd => rfl); (case hg => rfl); (case hr => first | (go_simp; done) | (go_simp; rfl)); intro gb349 hg w43 hbox hb; have n0_ := Aside0.mk (blk_below (g := gb322) (o := .cells #[.int .i64 a0_0, .int .i64 a0_1, .int .i64 a0_2, .int .i64 a0_3, .string a0_4, .int .i64 a0_5, .int .i64 a0_6] 29 (0, 0)) (by (with_reducible repeat (first | refine blk_drewN ?_ _ | refine blk_drew ?_ | refine blk_alloc ?_ _)); exact BK322.out) hb); have n1_ := Aside0.mk (blk_below (g := gb331) (o := .cells #[.int .i64 t324, .int .i64 t325, .int .i64 t326, .int .i64 t327, .string t328, .int .i64 t329, .int .i64 t330] 29 (0, 0)) (by (with_reducible repeat (first | refine blk_drewN ?_ _ | refine blk_drew ?_ | refine blk_alloc ?_ _)); exact BK331.out) hb); have n2_ := Aside0.mk (below_step (by repeat (first | (with_reducible first | exact HB.out | apply below_alloc | apply pw_below_drewN | apply below_drew1 | refine below_set ?_ GE322.out | refine below_set ?_ GE331.out) | exact HB.out)) hb); have n3_ := Aside0.mk (hbox); have n4_ := Aside0.mk ((by rw [hg]; exact (below_size (by repeat (first | (with_reducible first | exact HB.out | apply below_alloc | apply pw_below_drewN | apply below_drew1 | refine below_set ?_ GE322.out | refine below_set ?_ GE331.out) | exact HB.out))) : w.heap.size ≤ gb349)); have n5_ := Aside0.mk ((by rw [hg]; exact (below_size (by repeat (first | (with_reducible first | exact HB.out | apply below_alloc | apply pw_below_drewN | apply below_drew1 | refine below_set ?_ GE322.out | refine below_set ?_ GE331.out) | exact HB.out))) : w.heap.size ≤ gb349)); have n6_ := Aside0.mk ((by rw [hg]; exact Nat.ne_of_lt (blk_lt (g := gb322) (o := .cells #[.int .i64 a0_0, .int .i64 a0_1, .int .i64 a0_2, .int .i64 a0_3, .string a0_4, .int .i64 a0_5, .int .i64 a0_6] 29 (0, 0)) (by (with_reducible repeat (first | refine blk_drewN ?_ _ | refine blk_drew ?_ | refine blk_alloc ?_ _)); exact BK322.out)) : gb322 ≠ gb349)); have n7_ := Aside0.mk ((by rw [hg]; exact Nat.ne_of_gt (blk_lt (g := gb322) (o := .cells #[.int .i64 a0_0, .int .i64 a0_1, .int .i64 a0_2, .int .i64 a0_3, .string a0_4, .int .i64 a0_5, .int .i64 a0_6] 29 (0, 0)) (by (with_reducible repeat (first | refine blk_drewN ?_ _ | refine blk_drew ?_ | refine blk_alloc ?_ _)); exact BK322.out)) : gb349 ≠ gb322)); have n8_ := Aside0.mk ((by rw [hg]; exact Nat.ne_of_lt (blk_lt (g := gb331) (o := .cells #[.int .i64 t324, .int .i64 t325, .int .i64 t326, .int .i64 t327, .string t328, .int .i64 t329, .int .i64 t330] 29 (0, 0)) (by (with_reducible repeat (first | refine blk_drewN ?_ _ | refine blk_drew ?_ | refine blk_alloc ?_ _)); exact BK331.out)) : gb331 ≠ gb349)); have n9_ := Aside0.mk ((by rw [hg]; exact Nat.ne_of_gt (blk_lt (g := gb331) (o := .cells #[.int .i64 t324, .int .i64 t325, .int .i64 t326, .int .i64 t327, .string t328, .int .i64 t329, .int .i64 t330] 29 (0, 0)) (by (with_reducible repeat (first | refine blk_drewN ?_ _ | refine blk_drew ?_ | refine blk_alloc ?_ _)); exact BK331.out)) : gb349 ≠ gb331)); clear BK322; clear BK331; clear HB; have BK322 := n0_; have BK331 := n1_; have HB := n2_; have BK349 := n3_; have GW349 := n4_; have GE349 := n5_; have NB322_349 := n6_; have NB349_322 := n7_; have NB331_349 := n8_; have NB349_331 := n9_; clear n0_ n1_ n2_ n3_ n4_ n5_ n6_ n7_ n8_ n9_; clear hb hbox hg; have hnb44 := NB349_322.out; have hnc44 := NB322_349.out; have hnb45 := NB349_331.out; have hnc45 := NB331_349.out; have hcz46_0 : w43.cell? ⟨gb349, 0, none⟩ = some (.int .i64 0) := (blk_cell BK349.out 0).trans rfl; have hcz46_1 : w43.cell? ⟨gb349, 1, none⟩ = some (.int .i64 0) := (blk_cell BK349.out 1).trans rfl; have hcz46_2 : w43.cell? ⟨gb349, 2, none⟩ = some (.int .i64 0) := (blk_cell BK349.out 2).trans rfl; have hcz46_3 : w43.cell? ⟨gb349, 3, none⟩ = some (.int .i64 0) := (blk_cell BK349.out 3).trans rfl; have hcz46_4 : w43.cell? ⟨gb349, 4, none⟩ = some (.string (⟨#[]⟩ : ByteArray)) := (blk_cell BK349.out 4).trans rfl; have hcz46_5 : w43.cell? ⟨gb349, 5, none⟩ = some (.int .i64 0) := (blk_cell BK349.out 5).trans rfl; have hcz46_6 : w43.cell? ⟨gb349, 6, none⟩ = some (.int .i64 0) := (blk_cell BK349.out 6).trans rfl; have hfz46_0 := blk_frozen BK349.out 0; have hfz46_1 := blk_frozen BK349.out 1; have hfz46_2 := blk_frozen BK349.out 2; have hfz46_3 := blk_frozen BK349.out 3; have hfz46_4 := blk_frozen BK349.out 4; have hfz46_5 := blk_frozen BK349.out 5; have hfz46_6 := blk_frozen BK349.out 6))
         go_ret
         exact ⟨by first | rfl | (simp [errW_none, errW_some] <;> rfl) | (simp [*, errW_none, errW_some] <;> rfl), by repeat (first | (with_reducible first | exact HB.out | apply below_alloc | apply pw_below_drewN | apply below_drew1 | refine below_set ?_ GE322.out | refine below_set ?_ GE331.out | refine below_set ?_ GE349.out) | exact HB.out)⟩
 ·replace c3 := Bool.eq_false_iff.mpr c3
  subst c3
  have H1 : (some false) = some r := by rw [if_neg (show ¬ (false = true) by decide)] at H; exact H
  clear H
  have H := H1
  clear H1
  obtain rfl := Option.some.inj H
  go_enter Tryd.func6, Tryd.ntmps6
  go_wp2_with (first | ((with_reducible refine gate_dst (N := 1) rfl ?_); refine box_event ?hg (N := 1) ?hd (cs := #[.int .i64 a0_0, .int .i64 a0_1, .int .i64 a0_2, .int .i64 a0_3, .string a0_4, .int .i64 a0_5, .int .i64 a0_6]) (t := 29) ?hr ?_; (case hd => rfl); (case hg => rfl); (case hr => first | (go_simp; done) | (go_simp; rfl)); intro gb322 hg w47 hbox hb; have n0_ := Aside0.mk (below_step (by repeat (first | (with_reducible first | exact HB.out | apply below_alloc | apply pw_below_drewN | apply below_drew1) | exact HB.out)) hb); have n1_ := Aside0.mk (hbox); have n2_ := Aside0.mk ((by rw [hg]; exact (below_size (by repeat (first | (with_reducible first | exact HB.out | apply below_alloc | apply pw_below_drewN | apply below_drew1) | exact HB.out))) : w.heap.size ≤ gb322)); have n3_ := Aside0.mk ((by rw [hg]; exact (below_size (by repeat (first | (with_reducible first | exact HB.out | apply below_alloc | apply pw_below_drewN | apply below_drew1) | exact HB.out))) : w.heap.size ≤ gb322)); clear HB; have HB := n0_; have BK322 := n1_; have GW322 := n2_; have GE322 := n3_; clear n0_ n1_ n2_ n3_; clear hb hbox hg) | ((with_reducible refine gate_callee (f := 16) rfl ?_); refine goesL_ (some 8) rfl rfl Tryd.func16 (by kernel_rfl) rfl #[] rfl (by (try simp only [List.map_toArray, List.map_cons, List.map_nil]); first | done | rfl | (simp only [List.length_drop, List.length_take]; rfl)) ?_; (with_reducible refine (barrowlaw24_awake.calls k  false _ ?tab1_ ?tab2_ A2.out).mono ?_); (case tab1_ => exact tab_keep hTab (by repeat (first | (with_reducible first | exact HB.out | apply below_alloc | apply pw_below_drewN | apply below_drew1) | (with_reducible refine below_set ?_ GE322.out) | exact HB.out))); (case tab2_ => exact tabE_keep hTabE (by repeat (first | (with_reducible first | exact HB.out | apply below_alloc | apply pw_below_drewN | apply below_drew1) | (with_reducible refine below_set ?_ GE322.out) | exact HB.out))); rintro e w48 ⟨rfl, hb⟩; refine ⟨_, rfl, ?_⟩; have n0_ := Aside0.mk (blk_below (g := gb322) (o := .cells #[.int .i64 a0_0, .int .i64 a0_1, .int .i64 a0_2, .int .i64 a0_3, .string a0_4, .int .i64 a0_5, .int .i64 a0_6] 29 (0, 0)) (by (with_reducible repeat (first | refine blk_drewN ?_ _ | refine blk_drew ?_ | refine blk_alloc ?_ _)); exact BK322.out) hb); have n1_ := Aside0.mk (below_step (by repeat (first | (with_reducible first | exact HB.out | apply below_alloc | apply pw_below_drewN | apply below_drew1 | refine below_set ?_ GE322.out) | exact HB.out)) hb); clear BK322; clear HB; have BK322 := n0_; have HB := n1_; clear n0_ n1_; (try clear hb); (try clear hb2); (try clear hk); (try clear hi)))
  go_ret
  exact ⟨by first | rfl | (simp [errW_none, errW_some] <;> rfl) | (simp [*, errW_none, errW_some] <;> rfl), by repeat (first | (with_reducible first | exact HB.out | apply below_alloc | apply pw_below_drewN | apply below_drew1 | refine below_set ?_ GE322.out) | exact HB.out)⟩

end Go.Proofs.YtlmdhpfggobogaaDoor.G

/- The fixed fact that the statements begin with: one step's line, there and back. -/
namespace Go.Proofs.YtlmdhpfggobogaaDoor.Pure
open Go.RowKit Go.Proofs.YtlmdhpfggobogaaDoor.G Go.Proofs.YtlmdhpfggobogaaDoorW.PrintWords Go.Proofs.YtlmdhpfggobogaaDoorW.PrintLast
open Go.Proofs.YtlmdhpfggobogaaDoor.Dec (digs)
set_option linter.unusedVariables false
theorem digs_one' (n : Nat) (h : n < 10) : digs n = [48 + ((n : Nat) : Int)] := by
  rw [digs_step, if_pos (by omega), List.nil_append, Nat.mod_eq_of_lt h]
theorem numI_one' (n : Nat) (h : n < 10) : numI (n : Int) = [48 + ((n : Nat) : Int)] := by
  unfold numI
  rw [if_neg (by omega), Int.natAbs_natCast, digs_one' n h]
theorem itoaB_one (n : Nat) (h : n < 10) (s : ByteArray) (hs : bytesOf s = [48 + ((n : Nat) : Int)]) : itoaB (n : Int) = s :=
  bytesOf_inj (by rw [itoa_bytes, numI_one' n h, hs])
theorem rdNum_one (n : Nat) (h : n < 10) (s : ByteArray) (hs : bytesOf s = [48 + ((n : Nat) : Int)]) (hp : Lib.parseIntB 64 s.data.toList = .ok (n : Int)) (hz : s.size ≤ 281474976710656) : script_readNumber.f s = some ((n : Int), true) := by
  unfold script_readNumber.f rdNum
  rw [if_pos hz, hp]
  show some ((n : Int), (itoaB (n : Int)).toList == s.toList) = _
  rw [itoaB_one n h s hs, beq_self_eq_true]
def lineC : ByteArray := ⟨#[115, 101, 116, 32, 48, 32, 50, 32, 84, 69, 65, 45, 49, 32, 53]⟩
def teaC : ByteArray := ⟨#[84, 69, 65, 45, 49]⟩
def wordsC : List ByteArray := [⟨#[115, 101, 116]⟩, ⟨#[48]⟩, ⟨#[50]⟩, teaC, ⟨#[53]⟩]
theorem words_ex : Ev (fun k => script_words.f k lineC) (wordsC, true) :=
  Ev.of (k := 60) (fun k => script_words.mono _ k) (by decide +kernel)
theorem contains_ex : strings_Contains.f lineC ⟨#[10]⟩ = some false := by decide +kernel
theorem good_ex : goodI (bytesOf teaC) = true := by decide +kernel
theorem readSku_ex : Ev (fun k => script_readSku.f k teaC) (teaC, true) := by
  unfold script_readSku.f
  refine Ev.bind (good_ev teaC) ?_
  rw [good_ex]
  exact Ev.congr (fun _ => if_pos rfl) (Ev.now _)
theorem kind_ex : kindUpto ⟨#[115, 101, 116]⟩ 16 = 1 := by decide +kernel
theorem step_ex : Ev (fun k => script_step.f k wordsC) (1, 0, 2, 0, teaC, 5, 0, true) := by
  have e0 := rdNum_one 0 (by decide) ⟨#[48]⟩ rfl (by decide +kernel) (by decide)
  have e2 := rdNum_one 2 (by decide) ⟨#[50]⟩ rfl (by decide +kernel) (by decide)
  have e5 := rdNum_one 5 (by decide) ⟨#[53]⟩ rfl (by decide +kernel) (by decide)
  have hr : Ev (fun k => readAll k [114, 99, 115, 113] [⟨#[48]⟩, ⟨#[50]⟩, teaC, ⟨#[53]⟩] ⟨1, 0, 0, 0, ⟨#[]⟩, 0, 0⟩) (some ⟨1, 0, 2, 0, teaC, 5, 0⟩) := by
    have key : ∀ k, readAll k [114, 99, 115, 113] [⟨#[48]⟩, ⟨#[50]⟩, teaC, ⟨#[53]⟩] ⟨1, 0, 0, 0, ⟨#[]⟩, 0, 0⟩ = (script_readSku.f k teaC).bind fun r => if r.2 = true then some (some ⟨1, 0, 2, 0, r.1, 5, 0⟩) else some none := by
      intro k
      simp only [readAll]
      rw [if_neg (by decide), e0, Option.bind_some, if_pos rfl, if_neg (by decide), e2, Option.bind_some, if_pos rfl, if_pos trivial]
      congr 1
      funext r
      by_cases hr : r.2 = true
      · rw [if_pos hr, if_pos hr, if_neg (by decide), e5, Option.bind_some, if_pos rfl]
        rfl
      · rw [if_neg hr, if_neg hr]
    refine Ev.congr key (Ev.bind readSku_ex ?_)
    exact Ev.congr (fun _ => if_pos rfl) (Ev.now _)
  obtain ⟨K, hK⟩ := hr
  refine ⟨K, fun k hk => ?_⟩
  show stepC k _ _ = _
  unfold stepC
  rw [if_pos (by decide), kind_ex, if_pos (by decide +kernel), if_pos (by decide +kernel)]
  have h1 : readAll k [114, 99, 115, 113] [⟨#[48]⟩, ⟨#[50]⟩, teaC, ⟨#[53]⟩] ⟨1, 0, 0, 0, ⟨#[]⟩, 0, 0⟩ = some (some ⟨1, 0, 2, 0, teaC, 5, 0⟩) := hK k hk
  have e1 : bytesOf (shp 1).2 = [114, 99, 115, 113] := rfl
  rw [e1]
  show Option.map (stepEnd 1) (readAll k [114, 99, 115, 113] [⟨#[48]⟩, ⟨#[50]⟩, teaC, ⟨#[53]⟩] ⟨1, 0, 0, 0, ⟨#[]⟩, 0, 0⟩) = _
  rw [h1]
  rfl
theorem line_ex : lineI 1 0 2 0 teaC 5 0 = bytesOf lineC := by
  show [115, 101, 116] ++ ([114, 99, 115, 113].flatMap (pieceI 1 0 2 0 teaC 5 0)) = _
  have p1 : pieceI 1 0 2 0 teaC 5 0 114 = [32, 48] := by unfold pieceI; rw [if_neg (by decide)]; show 32 :: numI ((0 : Nat) : Int) = _; rw [numI_one' 0 (by decide)]; rfl
  have p2 : pieceI 1 0 2 0 teaC 5 0 99 = [32, 50] := by unfold pieceI; rw [if_neg (by decide)]; show 32 :: numI ((2 : Nat) : Int) = _; rw [numI_one' 2 (by decide)]; rfl
  have p3 : pieceI 1 0 2 0 teaC 5 0 115 = [32, 84, 69, 65, 45, 49] := by unfold pieceI; rw [if_pos rfl]; unfold skuI; rw [if_pos good_ex]; rfl
  have p4 : pieceI 1 0 2 0 teaC 5 0 113 = [32, 53] := by unfold pieceI; rw [if_neg (by decide)]; show 32 :: numI ((5 : Nat) : Int) = _; rw [numI_one' 5 (by decide)]; rfl
  simp only [List.flatMap_cons, List.flatMap_nil, p1, p2, p3, p4]
  decide +kernel
theorem printOp_ex : script_PrintOp.f 1 0 2 0 teaC 5 0 = some lineC := by
  unfold script_PrintOp.f
  rw [if_pos (by decide), line_ex, str_bytesOf]
theorem awake_ev : Ev (fun k => barrowlaw24_awake.f k) true := by
  have hp : Ev (fun k => script_ParseOp.f k lineC) (1, 0, 2, 0, teaC, 5, 0, 0) := by
    unfold script_ParseOp.f
    refine Ev.bind words_ex ?_
    refine Ev.congr (f := fun k => script_ParseOp.j0 k wordsC false) (fun k => ?_) ?_
    · rw [contains_ex, Option.bind_some, if_neg (by decide), if_pos rfl]; rfl
    · refine Ev.step (f := fun k => (script_step.f k wordsC).bind fun bt130 => (if bt130.2.2.2.2.2.2.2 = true then (some (bt130.1, bt130.2.1, bt130.2.2.1, bt130.2.2.2.1, bt130.2.2.2.2.1, bt130.2.2.2.2.2.1, bt130.2.2.2.2.2.2.1, 0)) else (some (0, 0, 0, 0, (⟨#[]⟩ : ByteArray), 0, 0, 17)))) (fun k => by simp only [script_ParseOp.j0]; rw [if_neg (by decide)]) ?_
      refine Ev.bind step_ex ?_
      exact Ev.congr (fun _ => if_pos rfl) (Ev.now _)
  unfold barrowlaw24_awake.f
  refine Ev.bind hp ?_
  refine Ev.congr (f := fun _ => some true) (fun k => ?_) (Ev.now _)
  rw [if_pos rfl, if_pos (by decide +kernel)]
  show (script_PrintOp.f 1 0 2 0 teaC 5 0).bind _ = _
  rw [printOp_ex, Option.bind_some]
  decide +kernel
end Go.Proofs.YtlmdhpfggobogaaDoor.Pure

/- Two ops have one line just if their plain ones are one: a line's words are told by its blanks, and each word tells its field. -/
namespace Go.Proofs.YtlmdhpfggobogaaDoor.Pure
open Go.Proofs.YtlmdhpfggobogaaDoor.G hiding bytesOf_length
open Go.RowKit Go.Proofs.YtlmdhpfggobogaaDoorW.PrintWords Go.Proofs.YtlmdhpfggobogaaDoorW.PrintLast
open Go.Proofs.YtlmdhpfggobogaaDoor.Dec (digs val val_digs digs_dig digs_ne)
set_option linter.unusedVariables false
def sep (ws : List (List Int)) : List Int := ws.flatMap fun w => 32 :: w
theorem sep_head : ∀ (ws : List (List Int)) (c : Int) (t : List Int), sep ws = c :: t → c = 32
  | [], c, t, h => by simp [sep] at h
  | w :: ws, c, t, h => by
    simp only [sep, List.flatMap_cons, List.cons_append, List.cons.injEq] at h
    exact h.1.symm
theorem sep_inj : ∀ (n : Nat) (W W' : List Int) (ws ws' : List (List Int)), (W ++ sep ws).length ≤ n → 32 ∉ W → 32 ∉ W' → (∀ w ∈ ws, 32 ∉ w) → (∀ w ∈ ws', 32 ∉ w) → W ++ sep ws = W' ++ sep ws' → W = W' ∧ ws = ws' := by
  intro n
  induction n with
  | zero =>
    intro W W' ws ws' hn hW hW' hw hw' h
    have h0 : W ++ sep ws = [] := List.eq_nil_of_length_eq_zero (by omega)
    have h1 : W' ++ sep ws' = [] := by rw [← h, h0]
    have e1 := List.append_eq_nil_iff.1 h0
    have e2 := List.append_eq_nil_iff.1 h1
    refine ⟨by rw [e1.1, e2.1], ?_⟩
    have z : ∀ l : List (List Int), sep l = [] → l = [] := by
      intro l hl
      cases l with
      | nil => rfl
      | cons w t => simp [sep] at hl
    rw [z _ e1.2, z _ e2.2]
  | succ n ih =>
    intro W W' ws ws' hn hW hW' hw hw' h
    cases W with
    | nil =>
      cases W' with
      | nil =>
        refine ⟨rfl, ?_⟩
        cases ws with
        | nil =>
          cases ws' with
          | nil => rfl
          | cons w' t' => simp [sep] at h
        | cons w t =>
          cases ws' with
          | nil => simp [sep] at h
          | cons w' t' =>
            have e1 : sep (w :: t) = 32 :: (w ++ sep t) := rfl
            have e2 : sep (w' :: t') = 32 :: (w' ++ sep t') := rfl
            rw [List.nil_append, List.nil_append, e1, e2, List.cons.injEq] at h
            rw [List.nil_append, e1, List.length_cons] at hn
            obtain ⟨e3, e4⟩ := ih w w' t t' (by omega) (hw w (by simp)) (hw' w' (by simp)) (fun x hx => hw x (by simp [hx])) (fun x hx => hw' x (by simp [hx])) h.2
            rw [e3, e4]
      | cons c t =>
        exfalso
        have := sep_head ws c (t ++ sep ws') (by simpa using h)
        exact hW' (by simp [this])
    | cons c t =>
      cases W' with
      | nil =>
        exfalso
        have := sep_head ws' c (t ++ sep ws) (by simpa using h.symm)
        exact hW (by simp [this])
      | cons c' t' =>
        simp only [List.cons_append, List.cons.injEq] at h
        simp only [List.cons_append, List.length_cons] at hn
        obtain ⟨e3, e4⟩ := ih t t' ws ws' (by omega) (fun hx => hW (by simp [hx])) (fun hx => hW' (by simp [hx])) hw hw' h.2
        exact ⟨by rw [h.1, e3], e4⟩
/-! ### Numbers -/
theorem digs_inj {m n : Nat} (h : digs m = digs n) : m = n := by
  have h1 := val_digs m
  have h2 := val_digs n
  rw [h, h2] at h1
  omega
theorem numI_inj {m n : Int} (h : numI m = numI n) : m = n := by
  have hd : ∀ k : Nat, ∀ t, digs k ≠ 45 :: t := fun k t e => by
    have := digs_dig k 45 (by rw [e]; simp)
    omega
  unfold numI at h
  by_cases hm : m < 0 <;> by_cases hn : n < 0
  · rw [if_pos hm, if_pos hn, List.cons.injEq] at h
    have := digs_inj h.2; omega
  · rw [if_pos hm, if_neg hn] at h
    exact absurd h.symm (hd _ _)
  · rw [if_neg hm, if_pos hn] at h
    exact absurd h (hd _ _)
  · rw [if_neg hm, if_neg hn] at h
    have := digs_inj h; omega
theorem numI_no32 (n : Int) : 32 ∉ numI n := by
  intro h
  unfold numI at h
  have hd : (32 : Int) ∈ digs n.natAbs → False := fun hx => by have := digs_dig _ _ hx; omega
  split at h
  · rcases List.mem_cons.1 h with e | e
    · omega
    · exact hd e
  · exact hd h
/-! ### SKU words -/
theorem checkGo_chars : ∀ (l : List Int) (pm : Bool) (i : Int), (checkGo pm i l).2 = 0 → ∀ c ∈ l, letterI c = true ∨ digitI c = true ∨ isMarkI c = true
  | [], _, _, _, c, hc => by cases hc
  | x :: t, pm, i, h, c, hc => by
    unfold checkGo at h
    by_cases h1 : (letterI x || digitI x) = true
    · rw [if_pos h1] at h
      rcases List.mem_cons.1 hc with rfl | hc
      · simp only [Bool.or_eq_true] at h1; exact h1.elim .inl (fun e => .inr (.inl e))
      · exact checkGo_chars t _ _ h c hc
    · rw [if_neg h1] at h
      by_cases h2 : (isMarkI x && !pm && !t.isEmpty) = true
      · rw [if_pos h2] at h
        rcases List.mem_cons.1 hc with rfl | hc
        · simp only [Bool.and_eq_true] at h2; exact .inr (.inr h2.1.1)
        · exact checkGo_chars t _ _ h c hc
      · rw [if_neg h2] at h
        exact absurd h (show ¬ (22 : Int) = 0 by decide)
theorem good_chars (l : List Int) (h : goodI l = true) : l ≠ [] ∧ ∀ c ∈ l, c ≠ 32 ∧ c ≠ 34 := by
  unfold goodI at h
  have h0 : (checkL l).2 = 0 := by simpa using h
  unfold checkL at h0
  by_cases h1 : l = []
  · rw [if_pos h1] at h0; exact absurd h0 (by decide)
  · rw [if_neg h1] at h0
    by_cases h2 : 24 < l.length
    · rw [if_pos h2] at h0; exact absurd h0 (by decide)
    · rw [if_neg h2] at h0
      refine ⟨h1, fun c hc => ?_⟩
      rcases checkGo_chars l true 0 h0 c hc with e | e | e
      · unfold letterI at e; simp at e; omega
      · unfold digitI at e; simp at e; omega
      · unfold isMarkI at e; simp at e; omega
theorem hexB_inj : ∀ m n : Fin 16, bt hexB ((m.val : Nat) : Int) = bt hexB ((n.val : Nat) : Int) → m = n := by decide +kernel
theorem hexB_no : ∀ m : Fin 16, bt hexB ((m.val : Nat) : Int) ≠ 32 := by decide +kernel
theorem hex_inj {m n : Int} (hm : 0 ≤ m ∧ m < 16) (hn : 0 ≤ n ∧ n < 16) (h : bt hexB m = bt hexB n) : m = n := by
  have e1 : ((m.toNat : Nat) : Int) = m := by omega
  have e2 : ((n.toNat : Nat) : Int) = n := by omega
  have := hexB_inj ⟨m.toNat, by omega⟩ ⟨n.toNat, by omega⟩ (by simpa [e1, e2] using h)
  have h3 := congrArg Fin.val this
  simp only at h3
  omega
theorem hex_no {m : Int} (hm : 0 ≤ m ∧ m < 16) : bt hexB m ≠ 32 := by
  have e1 : ((m.toNat : Nat) : Int) = m := by omega
  have := hexB_no ⟨m.toNat, by omega⟩
  simpa [e1] using this
def byteR (l : List Int) : Prop := ∀ c ∈ l, 0 ≤ c ∧ c ≤ 255
theorem esc_inj : ∀ (l m : List Int), byteR l → byteR m → l.flatMap escI = m.flatMap escI → l = m
  | [], [], _, _, _ => rfl
  | [], c :: t, _, _, h => by
    exfalso
    rw [List.flatMap_cons] at h
    have h1 : escI c ≠ [] := by unfold escI; split <;> simp
    exact h1 (List.append_eq_nil_iff.1 h.symm).1
  | c :: t, [], _, _, h => by
    exfalso
    rw [List.flatMap_cons] at h
    have h1 : escI c ≠ [] := by unfold escI; split <;> simp
    exact h1 (List.append_eq_nil_iff.1 h).1
  | c :: t, d :: u, hl, hm, h => by
    have hc := hl c (by simp)
    have hd := hm d (by simp)
    have lit92 : ∀ x : Int, litI x = true → x ≠ 92 := fun x hx => by unfold litI at hx; simp at hx; omega
    rw [List.flatMap_cons, List.flatMap_cons] at h
    have ih := esc_inj t u (fun x hx => hl x (by simp [hx])) (fun x hx => hm x (by simp [hx]))
    unfold escI at h
    by_cases h1 : litI c = true <;> by_cases h2 : litI d = true
    · rw [if_pos h1, if_pos h2] at h
      simp only [List.cons_append, List.nil_append, List.cons.injEq] at h
      rw [h.1, ih h.2]
    · rw [if_pos h1, if_neg h2] at h
      simp only [List.cons_append, List.nil_append, List.cons.injEq] at h
      exact absurd h.1 (lit92 c h1)
    · rw [if_neg h1, if_pos h2] at h
      simp only [List.cons_append, List.nil_append, List.cons.injEq] at h
      exact absurd h.1.symm (lit92 d h2)
    · rw [if_neg h1, if_neg h2] at h
      simp only [List.cons_append, List.nil_append, List.cons.injEq, true_and] at h
      have e1 := hex_inj (by omega) (by omega) h.1
      have e2 := hex_inj (by omega) (by omega) h.2.1
      have e3 : c = d := by omega
      rw [e3, ih h.2.2]
theorem skuI_inj {l m : List Int} (hl : byteR l) (hm : byteR m) (h : skuI l = skuI m) : l = m := by
  have hq : ∀ a b : List Int, goodI a = true → a ≠ quoI b := by
    intro a b ha e
    have := (good_chars a ha).2 34 (by rw [e]; simp [quoI])
    exact this.2 rfl
  unfold skuI at h
  by_cases h1 : goodI l = true <;> by_cases h2 : goodI m = true
  · rwa [if_pos h1, if_pos h2] at h
  · rw [if_pos h1, if_neg h2] at h; exact absurd h (hq _ _ h1)
  · rw [if_neg h1, if_pos h2] at h; exact absurd h.symm (hq _ _ h2)
  · rw [if_neg h1, if_neg h2] at h
    unfold quoI at h
    rw [List.cons.injEq] at h
    exact esc_inj l m hl hm (List.append_cancel_right h.2)
theorem skuI_no32 (l : List Int) (hl : byteR l) : 32 ∉ skuI l := by
  intro h
  unfold skuI at h
  split at h
  · rename_i hg
    exact ((good_chars l hg).2 32 h).1 rfl
  · unfold quoI at h
    rcases List.mem_cons.1 h with e | e
    · omega
    · rcases List.mem_append.1 e with e | e
      · obtain ⟨c, hc, hx⟩ := List.mem_flatMap.1 e
        have hr := hl c hc
        unfold escI at hx
        split at hx
        · rename_i hlit
          simp at hx; subst hx
          exact absurd hlit (by decide)
        · simp only [List.mem_cons, List.not_mem_nil, or_false] at hx
          rcases hx with e1 | e1 | e1 | e1
          · omega
          · omega
          · exact hex_no (by omega) e1.symm
          · exact hex_no (by omega) e1.symm
      · simp at e
/-! ### Lines -/
section
variable (a0 a1 a2 a3 : Int) (a4 : ByteArray) (a5 a6 : Int)
def wordI (c : Int) : List Int := if c = 115 then skuI (bytesOf a4) else numI (fldV a0 a1 a2 a3 a5 a6 c)
theorem line_sep : lineI a0 a1 a2 a3 a4 a5 a6 = bytesOf (shp a0).1 ++ sep ((bytesOf (shp a0).2).map (wordI a0 a1 a2 a3 a4 a5 a6)) := by
  unfold lineI sep
  rw [List.flatMap_map]
  rfl
theorem word_no32 (c : Int) : 32 ∉ wordI a0 a1 a2 a3 a4 a5 a6 c := by
  unfold wordI
  split
  · exact skuI_no32 _ (bytesOf_range a4)
  · exact numI_no32 _
end
theorem shp_no32 (k : Int) : 32 ∉ bytesOf (shp k).1 := by
  rcases kind_cases k with rfl | rfl | rfl | rfl | rfl | rfl | rfl | rfl | rfl | rfl | rfl | rfl | rfl | rfl | rfl | rfl | h | h
  all_goals first | (decide +kernel) | (rw [(out_of (a0 := k) (by omega)).1]; decide +kernel)
theorem kind_known (k : Int) (h : 1 ≤ k ∧ k ≤ 16) : kindUpto (shp k).1 16 = k := by
  rcases kind_cases k with rfl | rfl | rfl | rfl | rfl | rfl | rfl | rfl | rfl | rfl | rfl | rfl | rfl | rfl | rfl | rfl | h1 | h1
  all_goals first | (decide +kernel) | omega
theorem kind_op : kindUpto opWord 16 = 0 := by decide +kernel
theorem kind_of_word {x y : Int} (h : (shp x).1 = (shp y).1) : x = y ∨ ((x < 1 ∨ 16 < x) ∧ (y < 1 ∨ 16 < y)) := by
  by_cases hx : x < 1 ∨ 16 < x <;> by_cases hy : y < 1 ∨ 16 < y
  · exact .inr ⟨hx, hy⟩
  · exfalso
    have h1 := kind_known y (by omega)
    rw [← h, (out_of hx).1] at h1
    have := kind_op.symm.trans h1
    omega
  · exfalso
    have h1 := kind_known x (by omega)
    rw [h, (out_of hy).1] at h1
    have := kind_op.symm.trans h1
    omega
  · left
    rw [← kind_known x (by omega), ← kind_known y (by omega), h]
theorem map_eq_mem {α β : Type} {f g : α → β} : ∀ {l : List α}, l.map f = l.map g → ∀ c ∈ l, f c = g c
  | [], _, c, hc => by cases hc
  | x :: t, h, c, hc => by
    simp only [List.map_cons, List.cons.injEq] at h
    rcases List.mem_cons.1 hc with rfl | hc
    · exact h.1
    · exact map_eq_mem h.2 c hc
def lineO (o : S29) : List Int := lineI o.f0 o.f1 o.f2 o.f3 o.f4 o.f5 o.f6
def plO (o : S29) : S29 := plainO o.f0 o.f1 o.f2 o.f3 o.f4 o.f5 o.f6
theorem line_inj {a b : S29} (h : lineO a = lineO b) : plO a = plO b := by
  unfold lineO at h
  rw [line_sep, line_sep] at h
  obtain ⟨hw, hm⟩ := sep_inj _ _ _ _ _ (Nat.le_refl _) (shp_no32 _) (shp_no32 _) (fun w hw => by obtain ⟨c, _, rfl⟩ := List.mem_map.1 hw; exact word_no32 _ _ _ _ _ _ _ c) (fun w hw => by obtain ⟨c, _, rfl⟩ := List.mem_map.1 hw; exact word_no32 _ _ _ _ _ _ _ c) h
  have hw' := bytesOf_inj hw
  have hk : a.f0 = b.f0 := by
    rcases kind_of_word hw' with e | ⟨e1, e2⟩
    · exact e
    · rw [(out_of e1).1, (out_of e2).1] at hm
      have h1 : [wordI a.f0 a.f1 a.f2 a.f3 a.f4 a.f5 a.f6 107] = [wordI b.f0 b.f1 b.f2 b.f3 b.f4 b.f5 b.f6 107] := hm
      simp only [List.cons.injEq, and_true] at h1
      unfold wordI at h1
      rw [if_neg (by decide), if_neg (by decide)] at h1
      exact numI_inj h1
  rw [← hk] at hm
  have key := map_eq_mem hm
  have num : ∀ c ∈ bytesOf (shp a.f0).2, c ≠ 115 → fldV a.f0 a.f1 a.f2 a.f3 a.f5 a.f6 c = fldV a.f0 b.f1 b.f2 b.f3 b.f5 b.f6 c := by
    intro c hc hne
    have := key c hc
    unfold wordI at this
    rw [if_neg hne, if_neg hne] at this
    exact numI_inj this
  unfold plO plainO plainL
  rw [← hk]
  have f1 : (if 114 ∈ bytesOf (shp a.f0).2 then a.f1 else 0) = (if 114 ∈ bytesOf (shp a.f0).2 then b.f1 else 0) := by
    split
    · rename_i hc; exact num 114 hc (by decide)
    · rfl
  have f2 : (if 99 ∈ bytesOf (shp a.f0).2 then a.f2 else 0) = (if 99 ∈ bytesOf (shp a.f0).2 then b.f2 else 0) := by
    split
    · rename_i hc; exact num 99 hc (by decide)
    · rfl
  have f3 : (if 116 ∈ bytesOf (shp a.f0).2 then a.f3 else 0) = (if 116 ∈ bytesOf (shp a.f0).2 then b.f3 else 0) := by
    split
    · rename_i hc; exact num 116 hc (by decide)
    · rfl
  have f4 : (if 115 ∈ bytesOf (shp a.f0).2 then a.f4 else ⟨#[]⟩) = (if 115 ∈ bytesOf (shp a.f0).2 then b.f4 else ⟨#[]⟩) := by
    split
    · rename_i hc
      have := key 115 hc
      unfold wordI at this
      rw [if_pos rfl, if_pos rfl] at this
      exact bytesOf_inj (skuI_inj (bytesOf_range _) (bytesOf_range _) this)
    · rfl
  have f5 : (if 113 ∈ bytesOf (shp a.f0).2 then a.f5 else 0) = (if 113 ∈ bytesOf (shp a.f0).2 then b.f5 else 0) := by
    split
    · rename_i hc; exact num 113 hc (by decide)
    · rfl
  have f6 : (if 110 ∈ bytesOf (shp a.f0).2 then a.f6 else 0) = (if 110 ∈ bytesOf (shp a.f0).2 then b.f6 else 0) := by
    split
    · rename_i hc; exact num 110 hc (by decide)
    · rfl
  rw [f1, f2, f3, f4, f5, f6]
theorem line_plain (o : S29) : lineO o = lineI (plO o).f0 (plO o).f1 (plO o).f2 (plO o).f3 (plO o).f4 (plO o).f5 (plO o).f6 := by
  obtain ⟨_, _, hc, _, _⟩ := shapes o.f0
  show lineI o.f0 o.f1 o.f2 o.f3 o.f4 o.f5 o.f6 = lineI o.f0 _ _ _ _ _ _
  unfold lineI
  congr 1
  have key : ∀ L : List Int, (∀ c ∈ L, c ∈ bytesOf (shp o.f0).2) → L.flatMap (pieceI o.f0 o.f1 o.f2 o.f3 o.f4 o.f5 o.f6) = L.flatMap (pieceI o.f0 (plO o).f1 (plO o).f2 (plO o).f3 (plO o).f4 (plO o).f5 (plO o).f6) := by
    intro L
    induction L with
    | nil => intro _; rfl
    | cons c t ih =>
      intro hL
      rw [List.flatMap_cons, List.flatMap_cons, ih (fun x hx => hL x (by simp [hx]))]
      congr 1
      have hm := hL c (by simp)
      rcases hc c hm with rfl | rfl | rfl | rfl | rfl | rfl | rfl <;> simp [pieceI, fldV, plO, plainO, plainL, hm]
  exact key _ (fun c hc => hc)
theorem line_iff (a b : S29) : lineO a = lineO b ↔ plO a = plO b :=
  ⟨line_inj, fun h => by rw [line_plain, line_plain, h]⟩
end Go.Proofs.YtlmdhpfggobogaaDoor.Pure
