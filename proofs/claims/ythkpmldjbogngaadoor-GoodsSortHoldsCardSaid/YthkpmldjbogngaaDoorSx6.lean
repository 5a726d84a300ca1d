-- PRINTED by print.py (a twelfth state) out of the translation. Not trusted: Lean checks it.
import Derived.Test.YthkpmldjbogngaaDoorSx0
namespace Go.Proofs.YthkpmldjbogngaaDoor.S
open Go.RowKit Go.Proofs.YthkpmldjbogngaaDoorW.PrintWords Go.Proofs.YthkpmldjbogngaaDoorW.PrintLast Go.Proofs.YthkpmldjbogngaaDoorW.PrintMore
attribute [local go_sem] max2_int min2_int max_two min_two max_three min_three max_four min_four   -- for this text's walks alone
set_option linter.unusedVariables false
set_option linter.unusedSimpArgs false

/-! ### barrowlaw02_decimal: function 17 -/
mutual
def barrowlaw02_decimal.l0 : Nat → Int → Int → ByteArray → Option (ByteArray)
 | 0, _, _, _ => none
 | k + 1, x0, x1, x5 => if x0 > 9 then ((some (([((48 + (Int.tmod x0 10)) % 4294967296) % 256] : List Int) : List Int)).bind fun y114 => (if (strOfNums y114).size + x5.size ≤ 9223372036854775807 then (barrowlaw02_decimal.l0 k ((Int.tdiv x0 10) % 4294967296) x1 ((strOfNums y114) ++ x5)) else (none))) else ((some (([((48 + x0) % 4294967296) % 256] : List Int) : List Int)).bind fun y117 => (if (strOfNums y117).size + x5.size ≤ 9223372036854775807 then (barrowlaw02_decimal.l1 k x1 ((strOfNums y117) ++ x5) 0) else (none)))
def barrowlaw02_decimal.l1 : Nat → Int → ByteArray → Int → Option (ByteArray)
 | 0, _, _, _ => none
 | k + 1, x1, x5, x6 => if x6 < (Go.bits .and .i64 x1 7) then (if 1 + x5.size ≤ 9223372036854775807 then (barrowlaw02_decimal.l1 k x1 ((⟨#[48]⟩ : ByteArray) ++ x5) (wrap64 (x6 + 1))) else (none)) else (some x5)
end
def barrowlaw02_decimal.f (k : Nat) (a0 : Int) (a1 : Int) : Option (ByteArray) := barrowlaw02_decimal.l0 k a0 a1 (⟨#[]⟩ : ByteArray)
theorem barrowlaw02_decimal.mono_l : ∀ k, (∀ y0 y1 y2, LeO (barrowlaw02_decimal.l0 k y0 y1 y2) (barrowlaw02_decimal.l0 (k + 1) y0 y1 y2)) ∧ (∀ y0 y1 y2, LeO (barrowlaw02_decimal.l1 k y0 y1 y2) (barrowlaw02_decimal.l1 (k + 1) y0 y1 y2))
 | 0 => ⟨fun _ _ _ r h => by simp [barrowlaw02_decimal.l0] at h, fun _ _ _ r h => by simp [barrowlaw02_decimal.l1] at h⟩
 | k + 1 => by
  obtain ⟨ih0, ih1⟩ := barrowlaw02_decimal.mono_l k
  refine ⟨?_, ?_⟩
  ·intro y0 y1 y2
   unfold barrowlaw02_decimal.l0
   repeat' first
   | (with_reducible exact ih0 _ _ _)
   | (with_reducible exact ih1 _ _ _)
   | (with_reducible exact LeO.refl _)
   | (with_reducible exact LeO.none _)
   | (with_reducible refine LeO.ite ?_ ?_)
   | (with_reducible refine LeO.bind ?_ (fun _ => ?_))
   | exact ih0 _ _ _
   | exact ih1 _ _ _
   | exact LeO.none _
   | refine LeO.ite ?_ ?_
   | refine LeO.bind ?_ (fun _ => ?_)
  ·intro y0 y1 y2
   unfold barrowlaw02_decimal.l1
   repeat' first
   | (with_reducible exact ih0 _ _ _)
   | (with_reducible exact ih1 _ _ _)
   | (with_reducible exact LeO.refl _)
   | (with_reducible exact LeO.none _)
   | (with_reducible refine LeO.ite ?_ ?_)
   | (with_reducible refine LeO.bind ?_ (fun _ => ?_))
   | exact ih0 _ _ _
   | exact ih1 _ _ _
   | exact LeO.none _
   | refine LeO.ite ?_ ?_
   | refine LeO.bind ?_ (fun _ => ?_)
theorem barrowlaw02_decimal.mono : ∀ a0 a1 k, LeO (barrowlaw02_decimal.f k a0 a1) (barrowlaw02_decimal.f (k + 1) a0 a1) := by
 intro a0 a1 k
 obtain ⟨ih0, ih1⟩ := barrowlaw02_decimal.mono_l k
 unfold barrowlaw02_decimal.f
 repeat' first
   | (with_reducible exact ih0 _ _ _)
   | (with_reducible exact ih1 _ _ _)
   | (with_reducible exact LeO.refl _)
   | (with_reducible exact LeO.none _)
   | (with_reducible refine LeO.ite ?_ ?_)
   | (with_reducible refine LeO.bind ?_ (fun _ => ?_))
   | exact ih0 _ _ _
   | exact ih1 _ _ _
   | exact LeO.none _
   | refine LeO.ite ?_ ?_
   | refine LeO.bind ?_ (fun _ => ?_)
set_option maxHeartbeats 8000000 in
set_option maxRecDepth 100000 in
theorem barrowlaw02_decimal.calls (k : Nat) (a0 : Int) (a1 : Int) (r : ByteArray) (w : World) (h : barrowlaw02_decimal.f k a0 a1 = some r) :
  Calls Tryd.prog 17 #[.int .u32 a0, .int .i64 a1] w fun e w' => e = .returned (.string r) ∧ Below w.heap.size w w' := by
 have HB := Aside0.mk (Below.refl w.heap.size w)
 have H : (barrowlaw02_decimal.l0 k a0 a1 (⟨#[]⟩ : ByteArray)) = some r := h
 clear h
 have H' := Aside0.mk H
 clear H
 go_enter Tryd.func17, Tryd.ntmps17
 go_wp2
 go_loopg [0, 5] k (fun kq v0 v5 w' => ∃ (x0_1 : Int) (x5_1 : ByteArray), v0 = .int .u32 x0_1 ∧ v5 = .string x5_1 ∧ Aside0 (barrowlaw02_decimal.l0 kq x0_1 a1 x5_1 = some r) ∧ Aside0 (kq ≤ k) ∧ Aside0 (Below w.heap.size w w'))
 case atStart => exact ⟨(a0), ((⟨#[]⟩ : ByteArray)), (by first | rfl | (simp; done) | (simp [*]; done)), (by first | rfl | (simp; done) | (simp [*]; done)), H', ⟨Nat.le_refl _⟩, ⟨by repeat (first | (with_reducible first | exact HB.out | apply below_alloc | apply pw_below_drewN | apply below_drew1) | exact HB.out)⟩⟩
 case round =>
  clear H'
  try clear c1
  try clear p2
  obtain ⟨x0_1, x5_1, rfl, rfl, HA, HK1, HB⟩ := hrel
  cases gk with
  | zero => exact absurd HA.out (by simp [barrowlaw02_decimal.l0])
  | succ k1 =>
   have H := HA.out
   clear HA
   simp only [barrowlaw02_decimal.l0] at H
   by_cases c3 : x0_1 > 9
   ·rw [if_pos c3] at H
    have c3b0 : decide (9 < x0_1) = true := decide_eq_true c3
    clear c3
    obtain ⟨y114, hy114⟩ : ∃ y_ : List Int, y_ = (([((48 + (Int.tmod x0_1 10)) % 4294967296) % 256] : List Int)) := ⟨_, rfl⟩
    replace H : (if (strOfNums y114).size + x5_1.size ≤ 9223372036854775807 then (barrowlaw02_decimal.l0 k1 ((Int.tdiv x0_1 10) % 4294967296) a1 ((strOfNums y114) ++ x5_1)) else (none)) = some r := by first | (rw [hy114]; with_reducible exact H) | (have H2_ := (Option.bind_some _ _).symm.trans H; rw [hy114]; with_reducible exact H2_) | (have H2_ := (Option.bind_some _ _).symm.trans H; with_reducible exact H2_) | with_reducible exact H | (rw [hy114]; exact H) | exact H
    have Ny114 := Aside0.mk hy114
    clear hy114
    by_cases c4 : (strOfNums y114).size + x5_1.size ≤ 9223372036854775807
    ·rw [if_pos c4] at H
     have c4b0 := eq_true c4
     have c4b1 : decide ((strOfNums y114).size + x5_1.size ≤ 9223372036854775807) = true := decide_eq_true c4
     try have c4b2 : (9223372036854775807 < (strOfNums y114).size + x5_1.size) = False := eq_false (Nat.not_lt.2 c4)
     have H' := Aside0.mk H
     clear H
     go_wp2_with (first | ((with_reducible refine gate_dst (N := 13) rfl ?_); refine Kd.R_lit (Kd.int .u8) _ 5 ?hg (N := 13) ?hd (xs := ([((48 + (Int.tmod x0_1 10)) % 4294967296) % 256] : List Int)) (inner := [.int .u8 (((48 + (Int.tmod x0_1 10)) % 4294967296) % 256)]) (ok := fun _ => True) (okp := fun _ => True) ?hr ?hp (fun _ hk => hk) trivial (Below.refl _ _) (Nat.le_refl _) (by simp) ?_; (case hd => rfl); (case hg => rfl); (case hr => first | (go_simp; done) | (go_simp; rfl)); (case hp => exact (Reps.one (show Kd.M (Kd.int .u8) _ _ _ (((48 + (Int.tmod x0_1 10)) % 4294967296) % 256) [.int .u8 (((48 + (Int.tmod x0_1 10)) % 4294967296) % 256)] from rfl) (Reps.none _ _))); intro v115 w5 ho6 hb hg_ hnew_; clear hg_ hnew_; (first | rw [← Ny114.out] at ho6 | (simp only [Int.reduceToNat] at ho6; rw [← Ny114.out] at ho6)); have n0_ := Aside0.mk (Kd.R_lower ho6 (below_size (by repeat (first | (with_reducible first | exact HB.out | apply below_alloc | apply pw_below_drewN | apply below_drew1) | exact HB.out)))); have n1_ := Aside0.mk (below_step (by repeat (first | (with_reducible first | exact HB.out | apply below_alloc | apply pw_below_drewN | apply below_drew1) | exact HB.out)) hb); clear HB; have HO116 := n0_; have HB := n1_; clear n0_ n1_; clear hb ho6; have hcv7 := own_string (P := Tryd.prog) Tryd.underlying39 Tryd.underlying5 Tryd.underlying9 (Kd.own_of_R HO116.out)))
     go_roundg k1
     case measure => have := HK1.out; omega
     case rel => exact ⟨((Int.tdiv x0_1 10) % 4294967296), ((strOfNums y114) ++ x5_1), (by first | rfl | (simp; done) | (simp [*]; done)), (by first | rfl | (simp; done) | (simp [*]; done)), H', ⟨by have := HK1.out; omega⟩, ⟨by repeat (first | (with_reducible first | exact HB.out | apply below_alloc | apply pw_below_drewN | apply below_drew1) | exact HB.out)⟩⟩
    ·rw [if_neg c4] at H
     exact absurd H (by simp)
   ·rw [if_neg c3] at H
    have c3b0 : decide (9 < x0_1) = false := decide_eq_false c3
    clear c3
    obtain ⟨y117, hy117⟩ : ∃ y_ : List Int, y_ = (([((48 + x0_1) % 4294967296) % 256] : List Int)) := ⟨_, rfl⟩
    replace H : (if (strOfNums y117).size + x5_1.size ≤ 9223372036854775807 then (barrowlaw02_decimal.l1 k1 a1 ((strOfNums y117) ++ x5_1) 0) else (none)) = some r := by first | (rw [hy117]; with_reducible exact H) | (have H2_ := (Option.bind_some _ _).symm.trans H; rw [hy117]; with_reducible exact H2_) | (have H2_ := (Option.bind_some _ _).symm.trans H; with_reducible exact H2_) | with_reducible exact H | (rw [hy117]; exact H) | exact H
    have Ny117 := Aside0.mk hy117
    clear hy117
    by_cases c8 : (strOfNums y117).size + x5_1.size ≤ 9223372036854775807
    ·rw [if_pos c8] at H
     have c8b0 := eq_true c8
     have c8b1 : decide ((strOfNums y117).size + x5_1.size ≤ 9223372036854775807) = true := decide_eq_true c8
     try have c8b2 : (9223372036854775807 < (strOfNums y117).size + x5_1.size) = False := eq_false (Nat.not_lt.2 c8)
     have H' := Aside0.mk H
     clear H
     go_wp2_with (first | ((with_reducible refine gate_dst (N := 22) rfl ?_); refine Kd.R_lit (Kd.int .u8) _ 5 ?hg (N := 22) ?hd (xs := ([((48 + x0_1) % 4294967296) % 256] : List Int)) (inner := [.int .u8 (((48 + x0_1) % 4294967296) % 256)]) (ok := fun _ => True) (okp := fun _ => True) ?hr ?hp (fun _ hk => hk) trivial (Below.refl _ _) (Nat.le_refl _) (by simp) ?_; (case hd => rfl); (case hg => rfl); (case hr => first | (go_simp; done) | (go_simp; rfl)); (case hp => exact (Reps.one (show Kd.M (Kd.int .u8) _ _ _ (((48 + x0_1) % 4294967296) % 256) [.int .u8 (((48 + x0_1) % 4294967296) % 256)] from rfl) (Reps.none _ _))); intro v118 w9 ho10 hb hg_ hnew_; clear hg_ hnew_; (first | rw [← Ny117.out] at ho10 | (simp only [Int.reduceToNat] at ho10; rw [← Ny117.out] at ho10)); have n0_ := Aside0.mk (Kd.R_lower ho10 (below_size (by repeat (first | (with_reducible first | exact HB.out | apply below_alloc | apply pw_below_drewN | apply below_drew1) | exact HB.out)))); have n1_ := Aside0.mk (below_step (by repeat (first | (with_reducible first | exact HB.out | apply below_alloc | apply pw_below_drewN | apply below_drew1) | exact HB.out)) hb); clear HB; have HO119 := n0_; have HB := n1_; clear n0_ n1_; clear hb ho10; have hcv11 := own_string (P := Tryd.prog) Tryd.underlying39 Tryd.underlying5 Tryd.underlying9 (Kd.own_of_R HO119.out)))
     go_loopg [5, 6] k1 (fun kq v5 v6 w' => ∃ (x5_2 : ByteArray) (x6_2 : Int), v5 = .string x5_2 ∧ v6 = .int .i64 x6_2 ∧ Aside0 (barrowlaw02_decimal.l1 kq a1 x5_2 x6_2 = some r) ∧ Aside0 (kq ≤ k1) ∧ Aside0 (Below w.heap.size w w'))
     case atStart => exact ⟨((strOfNums y117) ++ x5_1), (0), (by first | rfl | (simp; done) | (simp [*]; done)), (by first | rfl | (simp; done) | (simp [*]; done)), H', ⟨Nat.le_refl _⟩, ⟨by repeat (first | (with_reducible first | exact HB.out | apply below_alloc | apply pw_below_drewN | apply below_drew1) | exact HB.out)⟩⟩
     case round =>
      clear H'
      try clear c1
      try clear hcv1
      try clear p2
      try clear c3
      try clear c3b0
      try clear c4
      try clear c4b0
      try clear c4b1
      try clear c4b2
      try clear hcv7
      try clear c8
      try clear c8b0
      try clear c8b1
      try clear c8b2
      try clear hcv11
      try clear p2
      obtain ⟨x5_2, x6_2, rfl, rfl, HA, HK2, HB⟩ := hrel
      cases gk with
      | zero => exact absurd HA.out (by simp [barrowlaw02_decimal.l1])
      | succ k2 =>
       have H := HA.out
       clear HA
       simp only [barrowlaw02_decimal.l1] at H
       by_cases c12 : x6_2 < (Go.bits .and .i64 a1 7)
       ·rw [if_pos c12] at H
        have c12b0 : decide (x6_2 < (Go.bits .and .i64 a1 7)) = true := decide_eq_true c12
        clear c12
        by_cases c13 : 1 + x5_2.size ≤ 9223372036854775807
        ·rw [if_pos c13] at H
         have c13b0 := eq_true c13
         have c13b1 : decide (1 + x5_2.size ≤ 9223372036854775807) = true := decide_eq_true c13
         try have c13b2 : (9223372036854775807 < 1 + x5_2.size) = False := eq_false (Nat.not_lt.2 c13)
         have H' := Aside0.mk H
         clear H
         go_wp2
         go_roundg k2
         case measure => have := HK1.out; have := HK2.out; omega
         case rel => exact ⟨((⟨#[48]⟩ : ByteArray) ++ x5_2), (wrap64 (x6_2 + 1)), (by first | rfl | (simp; done) | (simp [*]; done)), (by first | rfl | (simp; done) | (simp [*]; done)), H', ⟨by have := HK1.out; have := HK2.out; omega⟩, ⟨by repeat (first | (with_reducible first | exact HB.out | apply below_alloc | apply pw_below_drewN | apply below_drew1) | exact HB.out)⟩⟩
        ·rw [if_neg c13] at H
         exact absurd H (by simp)
       ·rw [if_neg c12] at H
        have c12b0 : decide (x6_2 < (Go.bits .and .i64 a1 7)) = false := decide_eq_false c12
        clear c12
        obtain rfl := Option.some.inj H
        go_wp2
        go_ret
        exact ⟨by first | rfl | (simp [errW_none, errW_some] <;> rfl) | (simp [*, errW_none, errW_some] <;> rfl), by repeat (first | (with_reducible first | exact HB.out | apply below_alloc | apply pw_below_drewN | apply below_drew1) | exact HB.out)⟩
    ·rw [if_neg c8] at H
     exact absurd H (by simp)

end Go.Proofs.YthkpmldjbogngaaDoor.S
