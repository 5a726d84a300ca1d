-- PRINTED by print.py (a twelfth state) out of the translation. Not trusted: Lean checks it.
import Derived.Test.YtlmdcpooogaolaaDoorGx0
import Derived.Test.YtlmdcpooogaolaaDoorGx13
namespace Go.Proofs.YtlmdcpooogaolaaDoor.G
open Go.RowKit Go.Proofs.YtlmdcpooogaolaaDoorW.PrintWords Go.Proofs.YtlmdcpooogaolaaDoorW.PrintLast Go.Proofs.YtlmdcpooogaolaaDoorW.PrintMore
attribute [local go_sem] max2_int min2_int max_two min_two max_three min_three max_four min_four   -- for this text's walks alone
set_option linter.unusedVariables false
set_option linter.unusedSimpArgs false

/-! ### barrowref01_piece: function 16 -/
mutual
def barrowref01_piece.l0 : Nat → ByteArray → Int → Option (Int × Int × Bool)
 | 0, _, _ => none
 | k + 1, x0, x4 => if (wrap64 (x4 + 1)) < (x0.size : Int) then (if 0 ≤ x4 then (if x4 < (x0.size : Int) then (if (bt x0 x4) = 46 then (if 0 ≤ (wrap64 (x4 + 1)) then (barrowref01_piece.j1 k x0 x4 ((bt x0 (wrap64 (x4 + 1))) == 46)) else (none)) else (barrowref01_piece.j1 k x0 x4 false)) else (none)) else (none)) else ((barrowref01_number.f k x0).bind fun bt260 => (some (bt260.1, bt260.1, bt260.2)))
def barrowref01_piece.j1 : Nat → ByteArray → Int → Bool → Option (Int × Int × Bool)
 | 0, _, _, _ => none
 | k + 1, x0, x4, x28 => if x28 = true then (if 0 ≤ x4 then (if x4 ≤ (x0.size : Int) then ((barrowref01_number.f k (x0.extract 0 (x4 : Int).toNat)).bind fun bt262 => (if 0 ≤ (wrap64 (x4 + 2)) then (if (wrap64 (x4 + 2)) ≤ (x0.size : Int) then ((barrowref01_number.f k (x0.extract ((wrap64 (x4 + 2)) : Int).toNat x0.size)).bind fun bt264 => (if bt262.2 = true then (some (bt262.1, bt264.1, bt264.2)) else (some (bt262.1, bt264.1, false)))) else (none)) else (none))) else (none)) else (none)) else (barrowref01_piece.l0 k x0 (wrap64 (x4 + 1)))
end
def barrowref01_piece.f (k : Nat) (a0 : ByteArray) : Option (Int × Int × Bool) := barrowref01_piece.l0 k a0 0
theorem barrowref01_piece.mono_l : ∀ k, (∀ y0 y1, LeO (barrowref01_piece.l0 k y0 y1) (barrowref01_piece.l0 (k + 1) y0 y1)) ∧ (∀ y0 y1 y2, LeO (barrowref01_piece.j1 k y0 y1 y2) (barrowref01_piece.j1 (k + 1) y0 y1 y2))
 | 0 => ⟨fun _ _ r h => by simp [barrowref01_piece.l0] at h, fun _ _ _ r h => by simp [barrowref01_piece.j1] at h⟩
 | k + 1 => by
  obtain ⟨ih0, ih1⟩ := barrowref01_piece.mono_l k
  refine ⟨?_, ?_⟩
  ·intro y0 y1
   unfold barrowref01_piece.l0
   repeat' first
   | (with_reducible exact ih0 _ _)
   | (with_reducible exact ih1 _ _ _)
   | (with_reducible exact barrowref01_number.mono _ _)
   | (with_reducible exact LeO.refl _)
   | (with_reducible exact LeO.none _)
   | (with_reducible refine LeO.ite ?_ ?_)
   | (with_reducible refine LeO.bind ?_ (fun _ => ?_))
   | exact ih0 _ _
   | exact ih1 _ _ _
   | exact barrowref01_number.mono _ _
   | exact LeO.none _
   | refine LeO.ite ?_ ?_
   | refine LeO.bind ?_ (fun _ => ?_)
  ·intro y0 y1 y2
   unfold barrowref01_piece.j1
   repeat' first
   | (with_reducible exact ih0 _ _)
   | (with_reducible exact ih1 _ _ _)
   | (with_reducible exact barrowref01_number.mono _ _)
   | (with_reducible exact LeO.refl _)
   | (with_reducible exact LeO.none _)
   | (with_reducible refine LeO.ite ?_ ?_)
   | (with_reducible refine LeO.bind ?_ (fun _ => ?_))
   | exact ih0 _ _
   | exact ih1 _ _ _
   | exact barrowref01_number.mono _ _
   | exact LeO.none _
   | refine LeO.ite ?_ ?_
   | refine LeO.bind ?_ (fun _ => ?_)
theorem barrowref01_piece.mono : ∀ a0 k, LeO (barrowref01_piece.f k a0) (barrowref01_piece.f (k + 1) a0) := by
 intro a0 k
 obtain ⟨ih0, ih1⟩ := barrowref01_piece.mono_l k
 unfold barrowref01_piece.f
 repeat' first
   | (with_reducible exact ih0 _ _)
   | (with_reducible exact ih1 _ _ _)
   | (with_reducible exact barrowref01_number.mono _ _)
   | (with_reducible exact LeO.refl _)
   | (with_reducible exact LeO.none _)
   | (with_reducible refine LeO.ite ?_ ?_)
   | (with_reducible refine LeO.bind ?_ (fun _ => ?_))
   | exact ih0 _ _
   | exact ih1 _ _ _
   | exact barrowref01_number.mono _ _
   | exact LeO.none _
   | refine LeO.ite ?_ ?_
   | refine LeO.bind ?_ (fun _ => ?_)
set_option maxHeartbeats 8000000 in
set_option maxRecDepth 100000 in
theorem barrowref01_piece.calls (k : Nat) (a0 : ByteArray) (r1 : Int) (r2 : Int) (r3 : Bool) (w : World) (h : barrowref01_piece.f k a0 = some (r1, r2, r3)) :
  Calls Tryd.prog 16 #[.string a0] w fun e w' => e = .returned (.tuple #[.agg #[.int .i64 r1, .int .i64 r2], .bool r3]) ∧ Below w.heap.size w w' := by
 have hu32 := Tryd.underlying32
 have HB := Aside0.mk (Below.refl w.heap.size w)
 have H : (barrowref01_piece.l0 k a0 0) = some (r1, r2, r3) := h
 clear h
 have H' := Aside0.mk H
 clear H
 go_enter Tryd.func16, Tryd.ntmps16
 go_wp2_with (first | ((with_reducible refine gate_dst (N := 2) rfl ?_); refine box_event ?hg (N := 2) ?hd (cs := #[.int .i64 0, .int .i64 0]) (t := 32) ?hr ?_; (case hd => rfl); (case hg => rfl); (case hr => first | (go_simp; done) | (go_simp; rfl)); intro gb259 hg w2 hbox hb; have n0_ := Aside0.mk (below_step (by repeat (first | (with_reducible first | exact HB.out | apply below_alloc | apply pw_below_drewN | apply below_drew1) | exact HB.out)) hb); have n1_ := Aside0.mk (hbox); have n2_ := Aside0.mk ((by rw [hg]; exact (below_size (by repeat (first | (with_reducible first | exact HB.out | apply below_alloc | apply pw_below_drewN | apply below_drew1) | exact HB.out))) : w.heap.size ≤ gb259)); have n3_ := Aside0.mk ((by rw [hg]; exact (below_size (by repeat (first | (with_reducible first | exact HB.out | apply below_alloc | apply pw_below_drewN | apply below_drew1) | exact HB.out))) : w.heap.size ≤ gb259)); clear HB; have HB := n0_; have BK259 := n1_; have GW259 := n2_; have GE259 := n3_; clear n0_ n1_ n2_ n3_; clear hb hbox hg))
 go_loopg [4] k (fun kq v4 w' => ∃ (x4_1 : Int) (x260000_1 : Int) (x260001_1 : Int), v4 = .int .i64 x4_1 ∧ Aside0 (barrowref01_piece.l0 kq a0 x4_1 = some (r1, r2, r3)) ∧ Aside0 (kq ≤ k) ∧ Aside0 (w'.heap[gb259]? = some (.cells #[.int .i64 x260000_1, .int .i64 x260001_1] 32 (0, 0))) ∧ Aside0 (Below w.heap.size w w'))
 case atStart => exact ⟨(0), (0), (0), (by first | rfl | (simp; done) | (simp [*]; done)), H', ⟨Nat.le_refl _⟩, ⟨by (with_reducible repeat (first | refine blk_drewN ?_ _ | refine blk_drew ?_ | refine blk_alloc ?_ _)); exact BK259.out⟩, ⟨by repeat (first | (with_reducible first | exact HB.out | apply below_alloc | apply pw_below_drewN | apply below_drew1 | refine below_set ?_ GE259.out) | exact HB.out)⟩⟩
 case round =>
  clear H'
  try clear c1
  try clear p2
  obtain ⟨x4_1, x260000_1, x260001_1, rfl, HA, HK1, BK259, HB⟩ := hrel
  cases gk with
  | zero => exact absurd HA.out (by simp [barrowref01_piece.l0])
  | succ k1 =>
   have H := HA.out
   clear HA
   simp only [barrowref01_piece.l0] at H
   by_cases c3 : (wrap64 (x4_1 + 1)) < (a0.size : Int)
   ·rw [if_pos c3] at H
    have c3b0 : decide ((wrap64 (x4_1 + 1)) < (a0.size : Int)) = true := decide_eq_true c3
    clear c3
    have HC4 := Aside0.mk H
    clear H
    go_upto_region 4 with (fail)
    go_cut [28] (fun v28 wc => ∃ (kq : Nat) (x28_3 : Bool), v28 = .bool x28_3 ∧ Aside0 (barrowref01_piece.j1 kq a0 x4_1 x28_3 = some (r1, r2, r3)) ∧ Aside0 (kq ≤ k1) ∧ Aside0 (wc.heap[gb259]? = some (.cells #[.int .i64 x260000_1, .int .i64 x260001_1] 32 (0, 0))) ∧ Aside0 (Below w.heap.size w wc))
    case first =>
     have H := HC4.out
     clear HC4
     by_cases c5 : 0 ≤ x4_1
     ·rw [if_pos c5] at H
      have c5b0 : decide (0 ≤ x4_1) = true := decide_eq_true c5
      clear c5
      (first | rw [c5b0] | (simp only [i64_w, i32_w]; rw [c5b0]) | skip)
      by_cases c6 : x4_1 < (a0.size : Int)
      ·rw [if_pos c6] at H
       have c6b0 : decide (x4_1 < (a0.size : Int)) = true := decide_eq_true c6
       clear c6
       by_cases c8 : (bt a0 x4_1) = 46
       ·rw [if_pos c8] at H
        have c8b0 : ((bt a0 x4_1) == 46) = true := beq_iff_eq.mpr c8
        have c8b1 : ((bt a0 x4_1) != 46) = false := bne_eq_false_iff_eq.mpr c8
        clear c8
        obtain ⟨ji9, hji9⟩ : ∃ j_ : Int, (wrap64 (x4_1 + 1)) = j_ := ⟨_, rfl⟩
        replace H : (if 0 ≤ (ji9) then (barrowref01_piece.j1 k1 a0 x4_1 ((bt a0 (ji9)) == 46)) else (none)) = some (r1, r2, r3) := by first | (rw [hji9] at H; exact H) | (simp only [hji9] at H ⊢; exact H)
        (try rw [hji9] at c3b0)
        have hji9w : (IntKind.i64.wrap (x4_1 + 1)) = ji9 := (i64_w _).trans hji9
        by_cases c10 : 0 ≤ (ji9)
        ·rw [if_pos c10] at H
         have c10b0 : decide (0 ≤ (ji9)) = true := decide_eq_true c10
         clear c10
         have H' := Aside0.mk H
         clear H
         have p7 : 0 ≤ (x4_1 : Int) := of_decide_eq_true (by first | (with_reducible assumption) | assumption)
         have q7 : x4_1 < (a0.size : Int) := of_decide_eq_true (by first | (with_reducible assumption) | assumption)
         have hx7 := bt_at a0 x4_1
         replace p7 := eq_true p7
         replace q7 := eq_true q7
         have p11 : 0 ≤ ((ji9) : Int) := of_decide_eq_true (by first | (with_reducible assumption) | assumption)
         have q11 : (ji9) < (a0.size : Int) := of_decide_eq_true (by first | (with_reducible assumption) | assumption)
         have hx11 := bt_at a0 (ji9)
         replace p11 := eq_true p11
         replace q11 := eq_true q11
         go_wp2
         go_meet
         case rel => exact ⟨_, (((bt a0 (ji9)) == 46)), (by first | rfl | (simp; done) | (simp only [← hji9] <;> (first | rfl | simp)) | (simp [*]; done)), H', ⟨by have := HK1.out; first | omega | exact Nat.le_refl _⟩, ⟨by (with_reducible repeat (first | refine blk_drewN ?_ _ | refine blk_drew ?_ | refine blk_alloc ?_ _)); exact BK259.out⟩, ⟨by repeat (first | (with_reducible first | exact HB.out | apply below_alloc | apply pw_below_drewN | apply below_drew1 | refine below_set ?_ GE259.out) | exact HB.out)⟩⟩
        ·rw [if_neg c10] at H
         exact absurd H (by simp)
       ·rw [if_neg c8] at H
        have c8b0 : ((bt a0 x4_1) == 46) = false := beq_eq_false_iff_ne.mpr c8
        have c8b1 : ((bt a0 x4_1) != 46) = true := bne_iff_ne.mpr c8
        have H' := Aside0.mk H
        clear H
        have p7 : 0 ≤ (x4_1 : Int) := of_decide_eq_true (by first | (with_reducible assumption) | assumption)
        have q7 : x4_1 < (a0.size : Int) := of_decide_eq_true (by first | (with_reducible assumption) | assumption)
        have hx7 := bt_at a0 x4_1
        replace p7 := eq_true p7
        replace q7 := eq_true q7
        go_wp2
        go_meet
        case rel => exact ⟨_, (false), (by first | rfl | (simp; done) | (simp [*]; done)), H', ⟨by have := HK1.out; first | omega | exact Nat.le_refl _⟩, ⟨by (with_reducible repeat (first | refine blk_drewN ?_ _ | refine blk_drew ?_ | refine blk_alloc ?_ _)); exact BK259.out⟩, ⟨by repeat (first | (with_reducible first | exact HB.out | apply below_alloc | apply pw_below_drewN | apply below_drew1 | refine below_set ?_ GE259.out) | exact HB.out)⟩⟩
      ·rw [if_neg c6] at H
       exact absurd H (by simp)
     ·rw [if_neg c5] at H
      exact absurd H (by simp)
    case rest =>
     clear HC4
     try clear c1
     try clear p1
     try clear q1
     try clear hx1
     try clear p2
     try clear c3
     try clear c3b0
     try clear c5
     try clear c5b0
     try clear c6
     try clear c6b0
     try clear p6
     try clear p7
     try clear q7
     try clear hx7
     try clear c8
     try clear c8b0
     try clear c8b1
     try clear c10
     try clear c10b0
     try clear p11
     try clear q11
     try clear hx11
     try clear p11
     try clear p2
     try clear p7
     try clear q11
     try clear q7
     obtain ⟨kq, x28_3, rfl, HA, HJ3, BK259, HB⟩ := hcut
     cases kq with
     | zero => exact absurd HA.out (by simp [barrowref01_piece.j1])
     | succ kj3 =>
      have H := HA.out
      clear HA
      simp only [barrowref01_piece.j1] at H
      by_cases c12 : x28_3 = true
      ·subst c12
       have H1 : (if 0 ≤ x4_1 then (if x4_1 ≤ (a0.size : Int) then ((barrowref01_number.f kj3 (a0.extract 0 (x4_1 : Int).toNat)).bind fun bt262 => (if 0 ≤ (wrap64 (x4_1 + 2)) then (if (wrap64 (x4_1 + 2)) ≤ (a0.size : Int) then ((barrowref01_number.f kj3 (a0.extract ((wrap64 (x4_1 + 2)) : Int).toNat a0.size)).bind fun bt264 => (if bt262.2 = true then (some (bt262.1, bt264.1, bt264.2)) else (some (bt262.1, bt264.1, false)))) else (none)) else (none))) else (none)) else (none)) = some (r1, r2, r3) := by rw [if_pos rfl] at H; exact H
       clear H
       have H := H1
       clear H1
       by_cases c13 : 0 ≤ x4_1
       ·rw [if_pos c13] at H
        have c13b0 := eq_true c13
        have c13b1 : decide (0 ≤ x4_1) = true := decide_eq_true c13
        clear c13
        by_cases c14 : x4_1 ≤ (a0.size : Int)
        ·rw [if_pos c14] at H
         have c14b0 := eq_true c14
         have c14b1 : decide (x4_1 ≤ (a0.size : Int)) = true := decide_eq_true c14
         clear c14
         replace H := Option.bind_eq_some_iff.mp H
         obtain ⟨⟨t262, t263⟩, A150, H⟩ := H
         replace H : (if 0 ≤ (wrap64 (x4_1 + 2)) then (if (wrap64 (x4_1 + 2)) ≤ (a0.size : Int) then ((barrowref01_number.f kj3 (a0.extract ((wrap64 (x4_1 + 2)) : Int).toNat a0.size)).bind fun bt264 => (if t263 = true then (some (t262, bt264.1, bt264.2)) else (some (t262, bt264.1, false)))) else (none)) else (none)) = some (r1, r2, r3) := H
         have A15 := Aside0.mk A150
         clear A150
         obtain ⟨ji16, hji16⟩ : ∃ j_ : Int, (wrap64 (x4_1 + 2)) = j_ := ⟨_, rfl⟩
         replace H : (if 0 ≤ (ji16) then (if (ji16) ≤ (a0.size : Int) then ((barrowref01_number.f kj3 (a0.extract ((ji16) : Int).toNat a0.size)).bind fun bt264 => (if t263 = true then (some (t262, bt264.1, bt264.2)) else (some (t262, bt264.1, false)))) else (none)) else (none)) = some (r1, r2, r3) := by first | (rw [hji16] at H; exact H) | (simp only [hji16] at H ⊢; exact H)
         (try rw [hji16] at A15)
         have hji16w : (IntKind.i64.wrap (x4_1 + 2)) = ji16 := (i64_w _).trans hji16
         by_cases c17 : 0 ≤ (ji16)
         ·rw [if_pos c17] at H
          have c17b0 := eq_true c17
          have c17b1 : decide (0 ≤ (ji16)) = true := decide_eq_true c17
          clear c17
          by_cases c18 : (ji16) ≤ (a0.size : Int)
          ·rw [if_pos c18] at H
           have c18b0 := eq_true c18
           have c18b1 : decide ((ji16) ≤ (a0.size : Int)) = true := decide_eq_true c18
           clear c18
           replace H := Option.bind_eq_some_iff.mp H
           obtain ⟨⟨t264, t265⟩, A190, H⟩ := H
           replace H : (if t263 = true then (some (t262, t264, t265)) else (some (t262, t264, false))) = some (r1, r2, r3) := H
           have A19 := Aside0.mk A190
           clear A190
           by_cases c20 : t263 = true
           ·subst c20
            have H1 : (some (t262, t264, t265)) = some (r1, r2, r3) := by rw [if_pos rfl] at H; exact H
            clear H
            have H := H1
            clear H1
            simp only [Option.some.injEq, Prod.mk.injEq] at H
            obtain ⟨rfl, rfl, rfl⟩ := H
            go_wp2_with (first | ((with_reducible refine gate_callee (f := 24) rfl ?_); refine goesL_ (some 33) rfl rfl Tryd.func24 (by kernel_rfl) rfl #[.string (a0.extract 0 (x4_1 : Int).toNat)] rfl (by (try simp only [List.map_toArray, List.map_cons, List.map_nil]); first | done | rfl | (simp only [List.length_drop, List.length_take]; rfl)) ?_; (with_reducible refine (barrowref01_number.calls kj3 (a0.extract 0 (x4_1 : Int).toNat) t262 true _ A15.out).mono ?_); rintro e w' ⟨rfl, ⟨nd, rfl⟩⟩; refine ⟨_, rfl, ?_⟩; (try (rw [drewN_self wc]; generalize hq_ : World.drewN wc _ = wc; have n0_ : Aside0 (wc.heap[gb259]? = some (.cells #[.int .i64 x260000_1, .int .i64 x260001_1] 32 (0, 0))) := ⟨by rw [← hq_]; exact (by (with_reducible repeat (first | refine blk_drewN ?_ _ | refine blk_drew ?_ | refine blk_alloc ?_ _)); exact BK259.out)⟩; have n1_ : Aside0 (Below w.heap.size w wc) := ⟨by rw [← hq_]; exact (by repeat (first | (with_reducible first | exact HB.out | apply below_alloc | apply pw_below_drewN | apply below_drew1 | refine below_set ?_ GE259.out) | exact HB.out))⟩; clear BK259 HB hq_; have BK259 := n0_; have HB := n1_; clear n0_ n1_))) | ((with_reducible refine gate_callee (f := 24) rfl ?_); refine goesL_ (some 41) rfl rfl Tryd.func24 (by kernel_rfl) rfl #[.string (a0.extract ((ji16) : Int).toNat a0.size)] rfl (by (try simp only [List.map_toArray, List.map_cons, List.map_nil]); first | done | (simp only [hji16]; rfl) | rfl | (simp only [List.length_drop, List.length_take]; rfl)) ?_; (with_reducible refine (barrowref01_number.calls kj3 (a0.extract ((ji16) : Int).toNat a0.size) t264 t265 _ A19.out).mono ?_); rintro e w' ⟨rfl, ⟨nd, rfl⟩⟩; refine ⟨_, rfl, ?_⟩; (try (rw [drewN_self wc]; generalize hq_ : World.drewN wc _ = wc; have n0_ : Aside0 (wc.heap[gb259]? = some (.cells #[.int .i64 x260000_1, .int .i64 x260001_1] 32 (0, 0))) := ⟨by rw [← hq_]; exact (by (with_reducible repeat (first | refine blk_drewN ?_ _ | refine blk_drew ?_ | refine blk_alloc ?_ _)); exact BK259.out)⟩; have n1_ : Aside0 (Below w.heap.size w wc) := ⟨by rw [← hq_]; exact (by repeat (first | (with_reducible first | exact HB.out | apply below_alloc | apply pw_below_drewN | apply below_drew1 | refine below_set ?_ GE259.out) | exact HB.out))⟩; clear BK259 HB hq_; have BK259 := n0_; have HB := n1_; clear n0_ n1_)); have hcz21_0 : wc.cell? ⟨gb259, 0, none⟩ = some (.int .i64 x260000_1) := (blk_cell BK259.out 0).trans rfl; have hcz21_1 : wc.cell? ⟨gb259, 1, none⟩ = some (.int .i64 x260001_1) := (blk_cell BK259.out 1).trans rfl; have hfz21_0 := blk_frozen BK259.out 0; have hfz21_1 := blk_frozen BK259.out 1))
            refine bodyPost_ret (results_ct rfl _ _ gb259 32 #[.int .i64 t262, .int .i64 t264] (0, 0) _ rfl (by (with_reducible repeat (first | refine blk_drewN ?_ _ | refine blk_drew ?_ | refine blk_alloc ?_ _)); refine blk_put (cs := #[.int .i64 t262, .int .i64 x260001_1]) ?_ 1 _ rfl; (with_reducible repeat (first | refine blk_drewN ?_ _ | refine blk_drew ?_ | refine blk_alloc ?_ _)); refine blk_put (cs := #[.int .i64 x260000_1, .int .i64 x260001_1]) ?_ 0 _ rfl; (with_reducible repeat (first | refine blk_drewN ?_ _ | refine blk_drew ?_ | refine blk_alloc ?_ _)); exact BK259.out) Tryd.underlying32 rfl (by kernel_rfl)) rfl ?_
            exact ⟨by first | rfl | (simp [errW_none, errW_some] <;> rfl) | (simp only [← hji16]; first | rfl | (simp [errW_none, errW_some] <;> rfl)) | (simp [*, errW_none, errW_some] <;> rfl), by repeat (first | (with_reducible first | exact HB.out | apply below_alloc | apply pw_below_drewN | apply below_drew1 | refine below_set ?_ GE259.out) | exact HB.out)⟩
           ·replace c20 := Bool.eq_false_iff.mpr c20
            subst c20
            have H1 : (some (t262, t264, false)) = some (r1, r2, r3) := by rw [if_neg (show ¬ (false = true) by decide)] at H; exact H
            clear H
            have H := H1
            clear H1
            simp only [Option.some.injEq, Prod.mk.injEq] at H
            obtain ⟨rfl, rfl, rfl⟩ := H
            go_wp2_with (first | ((with_reducible refine gate_callee (f := 24) rfl ?_); refine goesL_ (some 33) rfl rfl Tryd.func24 (by kernel_rfl) rfl #[.string (a0.extract 0 (x4_1 : Int).toNat)] rfl (by (try simp only [List.map_toArray, List.map_cons, List.map_nil]); first | done | rfl | (simp only [List.length_drop, List.length_take]; rfl)) ?_; (with_reducible refine (barrowref01_number.calls kj3 (a0.extract 0 (x4_1 : Int).toNat) t262 false _ A15.out).mono ?_); rintro e w' ⟨rfl, ⟨nd, rfl⟩⟩; refine ⟨_, rfl, ?_⟩; (try (rw [drewN_self wc]; generalize hq_ : World.drewN wc _ = wc; have n0_ : Aside0 (wc.heap[gb259]? = some (.cells #[.int .i64 x260000_1, .int .i64 x260001_1] 32 (0, 0))) := ⟨by rw [← hq_]; exact (by (with_reducible repeat (first | refine blk_drewN ?_ _ | refine blk_drew ?_ | refine blk_alloc ?_ _)); exact BK259.out)⟩; have n1_ : Aside0 (Below w.heap.size w wc) := ⟨by rw [← hq_]; exact (by repeat (first | (with_reducible first | exact HB.out | apply below_alloc | apply pw_below_drewN | apply below_drew1 | refine below_set ?_ GE259.out) | exact HB.out))⟩; clear BK259 HB hq_; have BK259 := n0_; have HB := n1_; clear n0_ n1_))) | ((with_reducible refine gate_callee (f := 24) rfl ?_); refine goesL_ (some 41) rfl rfl Tryd.func24 (by kernel_rfl) rfl #[.string (a0.extract ((ji16) : Int).toNat a0.size)] rfl (by (try simp only [List.map_toArray, List.map_cons, List.map_nil]); first | done | (simp only [hji16]; rfl) | rfl | (simp only [List.length_drop, List.length_take]; rfl)) ?_; (with_reducible refine (barrowref01_number.calls kj3 (a0.extract ((ji16) : Int).toNat a0.size) t264 t265 _ A19.out).mono ?_); rintro e w' ⟨rfl, ⟨nd, rfl⟩⟩; refine ⟨_, rfl, ?_⟩; (try (rw [drewN_self wc]; generalize hq_ : World.drewN wc _ = wc; have n0_ : Aside0 (wc.heap[gb259]? = some (.cells #[.int .i64 x260000_1, .int .i64 x260001_1] 32 (0, 0))) := ⟨by rw [← hq_]; exact (by (with_reducible repeat (first | refine blk_drewN ?_ _ | refine blk_drew ?_ | refine blk_alloc ?_ _)); exact BK259.out)⟩; have n1_ : Aside0 (Below w.heap.size w wc) := ⟨by rw [← hq_]; exact (by repeat (first | (with_reducible first | exact HB.out | apply below_alloc | apply pw_below_drewN | apply below_drew1 | refine below_set ?_ GE259.out) | exact HB.out))⟩; clear BK259 HB hq_; have BK259 := n0_; have HB := n1_; clear n0_ n1_)); have hcz22_0 : wc.cell? ⟨gb259, 0, none⟩ = some (.int .i64 x260000_1) := (blk_cell BK259.out 0).trans rfl; have hcz22_1 : wc.cell? ⟨gb259, 1, none⟩ = some (.int .i64 x260001_1) := (blk_cell BK259.out 1).trans rfl; have hfz22_0 := blk_frozen BK259.out 0; have hfz22_1 := blk_frozen BK259.out 1))
            refine bodyPost_ret (results_ct rfl _ _ gb259 32 #[.int .i64 t262, .int .i64 t264] (0, 0) _ rfl (by (with_reducible repeat (first | refine blk_drewN ?_ _ | refine blk_drew ?_ | refine blk_alloc ?_ _)); refine blk_put (cs := #[.int .i64 t262, .int .i64 x260001_1]) ?_ 1 _ rfl; (with_reducible repeat (first | refine blk_drewN ?_ _ | refine blk_drew ?_ | refine blk_alloc ?_ _)); refine blk_put (cs := #[.int .i64 x260000_1, .int .i64 x260001_1]) ?_ 0 _ rfl; (with_reducible repeat (first | refine blk_drewN ?_ _ | refine blk_drew ?_ | refine blk_alloc ?_ _)); exact BK259.out) Tryd.underlying32 rfl (by kernel_rfl)) rfl ?_
            exact ⟨by first | rfl | (simp [errW_none, errW_some] <;> rfl) | (simp only [← hji16]; first | rfl | (simp [errW_none, errW_some] <;> rfl)) | (simp [*, errW_none, errW_some] <;> rfl), by repeat (first | (with_reducible first | exact HB.out | apply below_alloc | apply pw_below_drewN | apply below_drew1 | refine below_set ?_ GE259.out) | exact HB.out)⟩
          ·rw [if_neg c18] at H
           exact absurd H (by simp)
         ·rw [if_neg c17] at H
          exact absurd H (by simp)
        ·rw [if_neg c14] at H
         exact absurd H (by simp)
       ·rw [if_neg c13] at H
        exact absurd H (by simp)
      ·replace c12 := Bool.eq_false_iff.mpr c12
       subst c12
       have H1 : (barrowref01_piece.l0 kj3 a0 (wrap64 (x4_1 + 1))) = some (r1, r2, r3) := by rw [if_neg (show ¬ (false = true) by decide)] at H; exact H
       clear H
       have H := H1
       clear H1
       have H' := Aside0.mk H
       clear H
       go_wp2
       go_roundg kj3
       case measure => have := HK1.out; have := HJ3.out; omega
       case rel => exact ⟨(wrap64 (x4_1 + 1)), (x260000_1), (x260001_1), (by first | rfl | (simp; done) | (simp [*]; done)), H', ⟨by have := HK1.out; have := HJ3.out; omega⟩, ⟨by (with_reducible repeat (first | refine blk_drewN ?_ _ | refine blk_drew ?_ | refine blk_alloc ?_ _)); exact BK259.out⟩, ⟨by repeat (first | (with_reducible first | exact HB.out | apply below_alloc | apply pw_below_drewN | apply below_drew1 | refine below_set ?_ GE259.out) | exact HB.out)⟩⟩
   ·rw [if_neg c3] at H
    have c3b0 : decide ((wrap64 (x4_1 + 1)) < (a0.size : Int)) = false := decide_eq_false c3
    clear c3
    replace H := Option.bind_eq_some_iff.mp H
    obtain ⟨⟨t260, t261⟩, A230, H⟩ := H
    replace H : (some (t260, t260, t261)) = some (r1, r2, r3) := H
    have A23 := Aside0.mk A230
    clear A230
    simp only [Option.some.injEq, Prod.mk.injEq] at H
    obtain ⟨rfl, rfl, rfl⟩ := H
    go_wp2_with (first | ((with_reducible refine gate_callee (f := 24) rfl ?_); refine goesL_ (some 53) rfl rfl Tryd.func24 (by kernel_rfl) rfl #[.string a0] rfl (by (try simp only [List.map_toArray, List.map_cons, List.map_nil]); first | done | rfl | (simp only [List.length_drop, List.length_take]; rfl)) ?_; (with_reducible refine (barrowref01_number.calls k1 a0 t260 t261 _ A23.out).mono ?_); rintro e w' ⟨rfl, ⟨nd, rfl⟩⟩; refine ⟨_, rfl, ?_⟩; (try (rw [drewN_self wr]; generalize hq_ : World.drewN wr _ = wr; have n0_ : Aside0 (wr.heap[gb259]? = some (.cells #[.int .i64 x260000_1, .int .i64 x260001_1] 32 (0, 0))) := ⟨by rw [← hq_]; exact (by (with_reducible repeat (first | refine blk_drewN ?_ _ | refine blk_drew ?_ | refine blk_alloc ?_ _)); exact BK259.out)⟩; have n1_ : Aside0 (Below w.heap.size w wr) := ⟨by rw [← hq_]; exact (by repeat (first | (with_reducible first | exact HB.out | apply below_alloc | apply pw_below_drewN | apply below_drew1 | refine below_set ?_ GE259.out) | exact HB.out))⟩; clear BK259 HB hq_; have BK259 := n0_; have HB := n1_; clear n0_ n1_)); have hcz24_0 : wr.cell? ⟨gb259, 0, none⟩ = some (.int .i64 x260000_1) := (blk_cell BK259.out 0).trans rfl; have hcz24_1 : wr.cell? ⟨gb259, 1, none⟩ = some (.int .i64 x260001_1) := (blk_cell BK259.out 1).trans rfl; have hfz24_0 := blk_frozen BK259.out 0; have hfz24_1 := blk_frozen BK259.out 1))
    refine bodyPost_ret (results_ct rfl _ _ gb259 32 #[.int .i64 t260, .int .i64 t260] (0, 0) _ rfl (by (with_reducible repeat (first | refine blk_drewN ?_ _ | refine blk_drew ?_ | refine blk_alloc ?_ _)); refine blk_put (cs := #[.int .i64 t260, .int .i64 x260001_1]) ?_ 1 _ rfl; (with_reducible repeat (first | refine blk_drewN ?_ _ | refine blk_drew ?_ | refine blk_alloc ?_ _)); refine blk_put (cs := #[.int .i64 x260000_1, .int .i64 x260001_1]) ?_ 0 _ rfl; (with_reducible repeat (first | refine blk_drewN ?_ _ | refine blk_drew ?_ | refine blk_alloc ?_ _)); exact BK259.out) Tryd.underlying32 rfl (by kernel_rfl)) rfl ?_
    exact ⟨by first | rfl | (simp [errW_none, errW_some] <;> rfl) | (simp [*, errW_none, errW_some] <;> rfl), by repeat (first | (with_reducible first | exact HB.out | apply below_alloc | apply pw_below_drewN | apply below_drew1 | refine below_set ?_ GE259.out) | exact HB.out)⟩

end Go.Proofs.YtlmdcpooogaolaaDoor.G
