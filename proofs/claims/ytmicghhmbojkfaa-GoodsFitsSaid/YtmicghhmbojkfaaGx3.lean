-- PRINTED by print.py (a twelfth state) out of the translation. Not trusted: Lean checks it.
import Derived.Test.YtmicghhmbojkfaaGx0
namespace Go.Proofs.Ytmicghhmbojkfaa.G
open Go.RowKit Go.Proofs.YtmicghhmbojkfaaW.PrintWords Go.Proofs.YtmicghhmbojkfaaW.PrintLast Go.Proofs.YtmicghhmbojkfaaW.PrintMore
attribute [local go_sem] max2_int min2_int max_two min_two max_three min_three max_four min_four   -- for this text's walks alone
set_option linter.unusedVariables false
set_option linter.unusedSimpArgs false

/-! ### barrowlaw02_typed: function 11 -/
mutual
def barrowlaw02_typed.l0 : Nat → ByteArray → List Int → List Int → Int → Option (ByteArray)
  | 0, _, _, _, _ => none
  | k + 1, x0, x1, x5, x6 => if x6 < (x0.size : Int) then (if x6 < (x1.length : Int) then (if 0 ≤ x6 then (barrowlaw02_typed.j1 k x0 x1 x5 x6 (Go.bits .and .i64 (rd x1 x6) 7)) else (none)) else (barrowlaw02_typed.j1 k x0 x1 x5 x6 0)) else ((some (([47, 32] : List Int) : List Int)).bind fun y116 => (if x5.length + y116.length < 140737488355328 then (some (strOfNums (x5 ++ y116))) else (none)))
def barrowlaw02_typed.j1 : Nat → ByteArray → List Int → List Int → Int → Int → Option (ByteArray)
  | 0, _, _, _, _, _ => none
  | k + 1, x0, x1, x5, x6, x7 => if 0 ≤ x6 then (if x6 < (x0.size : Int) then (if (bt x0 x6) ≥ 65 then (if (bt x0 x6) ≤ 90 then (barrowlaw02_typed.j2 k x0 x1 x5 x6 x7 (bt x0 x6) (decide (x7 > 2))) else (barrowlaw02_typed.j2 k x0 x1 x5 x6 x7 (bt x0 x6) false)) else (barrowlaw02_typed.j2 k x0 x1 x5 x6 x7 (bt x0 x6) false)) else (none)) else (none)
def barrowlaw02_typed.j2 : Nat → ByteArray → List Int → List Int → Int → Int → Int → Bool → Option (ByteArray)
  | 0, _, _, _, _, _, _, _ => none
  | k + 1, x0, x1, x5, x6, x7, x8, x28 => if x28 = true then (if x5.length < 140737488355328 then (barrowlaw02_typed.l0 k x0 x1 (x5 ++ [(x8 + 32) % 256]) (wrap64 (x6 + 1))) else (none)) else (if x8 = 45 then (barrowlaw02_typed.j3 k x0 x1 x5 x6 x7 x8 (x7 == 1)) else (barrowlaw02_typed.j3 k x0 x1 x5 x6 x7 x8 false))
def barrowlaw02_typed.j3 : Nat → ByteArray → List Int → List Int → Int → Int → Int → Bool → Option (ByteArray)
  | 0, _, _, _, _, _, _, _ => none
  | k + 1, x0, x1, x5, x6, x7, x8, x41 => if x41 = true then (if x5.length < 140737488355328 then (barrowlaw02_typed.l0 k x0 x1 (x5 ++ [95]) (wrap64 (x6 + 1))) else (none)) else (if x8 = 45 then (barrowlaw02_typed.j4 k x0 x1 x5 x6 x7 x8 (x7 == 2)) else (barrowlaw02_typed.j4 k x0 x1 x5 x6 x7 x8 false))
def barrowlaw02_typed.j4 : Nat → ByteArray → List Int → List Int → Int → Int → Int → Bool → Option (ByteArray)
  | 0, _, _, _, _, _, _, _ => none
  | k + 1, x0, x1, x5, x6, x7, x8, x48 => if x48 = true then (if x5.length < 140737488355328 then (barrowlaw02_typed.l0 k x0 x1 (x5 ++ [47]) (wrap64 (x6 + 1))) else (none)) else (if x8 = 45 then (barrowlaw02_typed.j5 k x0 x1 x5 x6 x7 x8 (decide (x7 > 3))) else (barrowlaw02_typed.j5 k x0 x1 x5 x6 x7 x8 false))
def barrowlaw02_typed.j5 : Nat → ByteArray → List Int → List Int → Int → Int → Int → Bool → Option (ByteArray)
  | 0, _, _, _, _, _, _, _ => none
  | k + 1, x0, x1, x5, x6, x7, x8, x55 => if x55 = true then (if x5.length < 140737488355328 then ((some (x5 ++ [32] : List Int)).bind fun y132 => (if y132.length < 140737488355328 then (barrowlaw02_typed.l0 k x0 x1 (y132 ++ [x8]) (wrap64 (x6 + 1))) else (none))) else (none)) else (if x8 = 46 then (if x7 > 3 then (if x5.length < 140737488355328 then ((some (x5 ++ [45] : List Int)).bind fun y138 => (if y138.length < 140737488355328 then (barrowlaw02_typed.l0 k x0 x1 (y138 ++ [x8]) (wrap64 (x6 + 1))) else (none))) else (none)) else (if x5.length < 140737488355328 then (barrowlaw02_typed.l0 k x0 x1 (x5 ++ [x8]) (wrap64 (x6 + 1))) else (none))) else (if x5.length < 140737488355328 then (barrowlaw02_typed.l0 k x0 x1 (x5 ++ [x8]) (wrap64 (x6 + 1))) else (none)))
end
def barrowlaw02_typed.f (k : Nat) (a0 : ByteArray) (l1 : List Int) : Option (ByteArray) := barrowlaw02_typed.l0 k a0 l1 (([32, 9] : List Int)) 0
theorem barrowlaw02_typed.mono_l : ∀ k, (∀ y0 y1 y2 y3, LeO (barrowlaw02_typed.l0 k y0 y1 y2 y3) (barrowlaw02_typed.l0 (k + 1) y0 y1 y2 y3)) ∧ (∀ y0 y1 y2 y3 y4, LeO (barrowlaw02_typed.j1 k y0 y1 y2 y3 y4) (barrowlaw02_typed.j1 (k + 1) y0 y1 y2 y3 y4)) ∧ (∀ y0 y1 y2 y3 y4 y5 y6, LeO (barrowlaw02_typed.j2 k y0 y1 y2 y3 y4 y5 y6) (barrowlaw02_typed.j2 (k + 1) y0 y1 y2 y3 y4 y5 y6)) ∧ (∀ y0 y1 y2 y3 y4 y5 y6, LeO (barrowlaw02_typed.j3 k y0 y1 y2 y3 y4 y5 y6) (barrowlaw02_typed.j3 (k + 1) y0 y1 y2 y3 y4 y5 y6)) ∧ (∀ y0 y1 y2 y3 y4 y5 y6, LeO (barrowlaw02_typed.j4 k y0 y1 y2 y3 y4 y5 y6) (barrowlaw02_typed.j4 (k + 1) y0 y1 y2 y3 y4 y5 y6)) ∧ (∀ y0 y1 y2 y3 y4 y5 y6, LeO (barrowlaw02_typed.j5 k y0 y1 y2 y3 y4 y5 y6) (barrowlaw02_typed.j5 (k + 1) y0 y1 y2 y3 y4 y5 y6))
  | 0 => ⟨fun _ _ _ _ r h => by simp [barrowlaw02_typed.l0] at h, fun _ _ _ _ _ r h => by simp [barrowlaw02_typed.j1] at h, fun _ _ _ _ _ _ _ r h => by simp [barrowlaw02_typed.j2] at h, fun _ _ _ _ _ _ _ r h => by simp [barrowlaw02_typed.j3] at h, fun _ _ _ _ _ _ _ r h => by simp [barrowlaw02_typed.j4] at h, fun _ _ _ _ _ _ _ r h => by simp [barrowlaw02_typed.j5] at h⟩
  | k + 1 => by
    obtain ⟨ih0, ih1, ih2, ih3, ih4, ih5⟩ := barrowlaw02_typed.mono_l k
    refine ⟨?_, ?_, ?_, ?_, ?_, ?_⟩
    · intro y0 y1 y2 y3
      unfold barrowlaw02_typed.l0
      repeat' first
      | (with_reducible exact ih0 _ _ _ _)
      | (with_reducible exact ih1 _ _ _ _ _)
      | (with_reducible exact ih2 _ _ _ _ _ _ _)
      | (with_reducible exact ih3 _ _ _ _ _ _ _)
      | (with_reducible exact ih4 _ _ _ _ _ _ _)
      | (with_reducible exact ih5 _ _ _ _ _ _ _)
      | (with_reducible exact LeO.refl _)
      | (with_reducible exact LeO.none _)
      | (with_reducible refine LeO.ite ?_ ?_)
      | (with_reducible refine LeO.bind ?_ (fun _ => ?_))
      | exact ih0 _ _ _ _
      | exact ih1 _ _ _ _ _
      | exact ih2 _ _ _ _ _ _ _
      | exact ih3 _ _ _ _ _ _ _
      | exact ih4 _ _ _ _ _ _ _
      | exact ih5 _ _ _ _ _ _ _
      | exact LeO.none _
      | refine LeO.ite ?_ ?_
      | refine LeO.bind ?_ (fun _ => ?_)
    · intro y0 y1 y2 y3 y4
      unfold barrowlaw02_typed.j1
      repeat' first
      | (with_reducible exact ih0 _ _ _ _)
      | (with_reducible exact ih1 _ _ _ _ _)
      | (with_reducible exact ih2 _ _ _ _ _ _ _)
      | (with_reducible exact ih3 _ _ _ _ _ _ _)
      | (with_reducible exact ih4 _ _ _ _ _ _ _)
      | (with_reducible exact ih5 _ _ _ _ _ _ _)
      | (with_reducible exact LeO.refl _)
      | (with_reducible exact LeO.none _)
      | (with_reducible refine LeO.ite ?_ ?_)
      | (with_reducible refine LeO.bind ?_ (fun _ => ?_))
      | exact ih0 _ _ _ _
      | exact ih1 _ _ _ _ _
      | exact ih2 _ _ _ _ _ _ _
      | exact ih3 _ _ _ _ _ _ _
      | exact ih4 _ _ _ _ _ _ _
      | exact ih5 _ _ _ _ _ _ _
      | exact LeO.none _
      | refine LeO.ite ?_ ?_
      | refine LeO.bind ?_ (fun _ => ?_)
    · intro y0 y1 y2 y3 y4 y5 y6
      unfold barrowlaw02_typed.j2
      repeat' first
      | (with_reducible exact ih0 _ _ _ _)
      | (with_reducible exact ih1 _ _ _ _ _)
      | (with_reducible exact ih2 _ _ _ _ _ _ _)
      | (with_reducible exact ih3 _ _ _ _ _ _ _)
      | (with_reducible exact ih4 _ _ _ _ _ _ _)
      | (with_reducible exact ih5 _ _ _ _ _ _ _)
      | (with_reducible exact LeO.refl _)
      | (with_reducible exact LeO.none _)
      | (with_reducible refine LeO.ite ?_ ?_)
      | (with_reducible refine LeO.bind ?_ (fun _ => ?_))
      | exact ih0 _ _ _ _
      | exact ih1 _ _ _ _ _
      | exact ih2 _ _ _ _ _ _ _
      | exact ih3 _ _ _ _ _ _ _
      | exact ih4 _ _ _ _ _ _ _
      | exact ih5 _ _ _ _ _ _ _
      | exact LeO.none _
      | refine LeO.ite ?_ ?_
      | refine LeO.bind ?_ (fun _ => ?_)
    · intro y0 y1 y2 y3 y4 y5 y6
      unfold barrowlaw02_typed.j3
      repeat' first
      | (with_reducible exact ih0 _ _ _ _)
      | (with_reducible exact ih1 _ _ _ _ _)
      | (with_reducible exact ih2 _ _ _ _ _ _ _)
      | (with_reducible exact ih3 _ _ _ _ _ _ _)
      | (with_reducible exact ih4 _ _ _ _ _ _ _)
      | (with_reducible exact ih5 _ _ _ _ _ _ _)
      | (with_reducible exact LeO.refl _)
      | (with_reducible exact LeO.none _)
      | (with_reducible refine LeO.ite ?_ ?_)
      | (with_reducible refine LeO.bind ?_ (fun _ => ?_))
      | exact ih0 _ _ _ _
      | exact ih1 _ _ _ _ _
      | exact ih2 _ _ _ _ _ _ _
      | exact ih3 _ _ _ _ _ _ _
      | exact ih4 _ _ _ _ _ _ _
      | exact ih5 _ _ _ _ _ _ _
      | exact LeO.none _
      | refine LeO.ite ?_ ?_
      | refine LeO.bind ?_ (fun _ => ?_)
    · intro y0 y1 y2 y3 y4 y5 y6
      unfold barrowlaw02_typed.j4
      repeat' first
      | (with_reducible exact ih0 _ _ _ _)
      | (with_reducible exact ih1 _ _ _ _ _)
      | (with_reducible exact ih2 _ _ _ _ _ _ _)
      | (with_reducible exact ih3 _ _ _ _ _ _ _)
      | (with_reducible exact ih4 _ _ _ _ _ _ _)
      | (with_reducible exact ih5 _ _ _ _ _ _ _)
      | (with_reducible exact LeO.refl _)
      | (with_reducible exact LeO.none _)
      | (with_reducible refine LeO.ite ?_ ?_)
      | (with_reducible refine LeO.bind ?_ (fun _ => ?_))
      | exact ih0 _ _ _ _
      | exact ih1 _ _ _ _ _
      | exact ih2 _ _ _ _ _ _ _
      | exact ih3 _ _ _ _ _ _ _
      | exact ih4 _ _ _ _ _ _ _
      | exact ih5 _ _ _ _ _ _ _
      | exact LeO.none _
      | refine LeO.ite ?_ ?_
      | refine LeO.bind ?_ (fun _ => ?_)
    · intro y0 y1 y2 y3 y4 y5 y6
      unfold barrowlaw02_typed.j5
      repeat' first
      | (with_reducible exact ih0 _ _ _ _)
      | (with_reducible exact ih1 _ _ _ _ _)
      | (with_reducible exact ih2 _ _ _ _ _ _ _)
      | (with_reducible exact ih3 _ _ _ _ _ _ _)
      | (with_reducible exact ih4 _ _ _ _ _ _ _)
      | (with_reducible exact ih5 _ _ _ _ _ _ _)
      | (with_reducible exact LeO.refl _)
      | (with_reducible exact LeO.none _)
      | (with_reducible refine LeO.ite ?_ ?_)
      | (with_reducible refine LeO.bind ?_ (fun _ => ?_))
      | exact ih0 _ _ _ _
      | exact ih1 _ _ _ _ _
      | exact ih2 _ _ _ _ _ _ _
      | exact ih3 _ _ _ _ _ _ _
      | exact ih4 _ _ _ _ _ _ _
      | exact ih5 _ _ _ _ _ _ _
      | exact LeO.none _
      | refine LeO.ite ?_ ?_
      | refine LeO.bind ?_ (fun _ => ?_)
theorem barrowlaw02_typed.mono : ∀ a0 a1 k, LeO (barrowlaw02_typed.f k a0 a1) (barrowlaw02_typed.f (k + 1) a0 a1) := by
  intro a0 a1 k
  obtain ⟨ih0, ih1, ih2, ih3, ih4, ih5⟩ := barrowlaw02_typed.mono_l k
  unfold barrowlaw02_typed.f
  repeat' first
      | (with_reducible exact ih0 _ _ _ _)
      | (with_reducible exact ih1 _ _ _ _ _)
      | (with_reducible exact ih2 _ _ _ _ _ _ _)
      | (with_reducible exact ih3 _ _ _ _ _ _ _)
      | (with_reducible exact ih4 _ _ _ _ _ _ _)
      | (with_reducible exact ih5 _ _ _ _ _ _ _)
      | (with_reducible exact LeO.refl _)
      | (with_reducible exact LeO.none _)
      | (with_reducible refine LeO.ite ?_ ?_)
      | (with_reducible refine LeO.bind ?_ (fun _ => ?_))
      | exact ih0 _ _ _ _
      | exact ih1 _ _ _ _ _
      | exact ih2 _ _ _ _ _ _ _
      | exact ih3 _ _ _ _ _ _ _
      | exact ih4 _ _ _ _ _ _ _
      | exact ih5 _ _ _ _ _ _ _
      | exact LeO.none _
      | refine LeO.ite ?_ ?_
      | refine LeO.bind ?_ (fun _ => ?_)
set_option maxHeartbeats 8000000 in
set_option maxRecDepth 100000 in
theorem barrowlaw02_typed.calls (k : Nat) (a0 : ByteArray) (A1 : Option Addr) (c1 : Nat) (l1 : List Int) (r : ByteArray) (w : World) (hr1 : Kd.C (Kd.int .i64) w A1 l1.length l1) (hc1 : l1.length ≤ c1) (h : barrowlaw02_typed.f k a0 l1 = some r) :
    Calls Try.prog 11 #[.string a0, .slice A1 l1.length c1] w fun e w' => e = .returned (.string r) ∧ Below w.heap.size w w' := by
  have HR1 := Aside0.mk hr1
  have HC1 := Aside0.mk hc1
  clear hr1 hc1
  have HB := Aside0.mk (Below.refl w.heap.size w)
  have H : (barrowlaw02_typed.l0 k a0 l1 (([32, 9] : List Int)) 0) = some r := h
  clear h
  obtain ⟨y113, hy113⟩ : ∃ y_ : List Int, y_ = (([32, 9] : List Int)) := ⟨_, rfl⟩
  replace H : (barrowlaw02_typed.l0 k a0 l1 y113 0) = some r := by first | (rw [hy113]; with_reducible exact H) | (have H2_ := (Option.bind_some _ _).symm.trans H; rw [hy113]; with_reducible exact H2_) | (have H2_ := (Option.bind_some _ _).symm.trans H; with_reducible exact H2_) | with_reducible exact H | (rw [hy113]; exact H) | exact H
  have Ny113 := Aside0.mk hy113
  clear hy113
  have H' := Aside0.mk H
  clear H
  go_enter Try.func11, Try.ntmps11
  go_wp2_with (first | ((with_reducible refine gate_dst (N := 9) rfl ?_); refine Kd.R_lit (Kd.int .u8) _ 5 ?hg (N := 9) ?hd (xs := ([32, 9] : List Int)) (inner := [.int .u8 32, .int .u8 9]) (ok := fun _ => True) (okp := fun _ => True) ?hr ?hp (fun _ hk => hk) trivial (Below.refl _ _) (Nat.le_refl _) (by simp) ?_; (case hd => rfl); (case hg => rfl); (case hr => first | (go_simp; done) | (go_simp; rfl)); (case hp => exact (Reps.one (show Kd.M (Kd.int .u8) _ _ _ 32 [.int .u8 32] from rfl) (Reps.one (show Kd.M (Kd.int .u8) _ _ _ 9 [.int .u8 9] from rfl) (Reps.none _ _)))); intro v114 w3 ho4 hb hg_ hnew_; clear hg_ hnew_; (first | rw [← Ny113.out] at ho4 | (simp only [Int.reduceToNat] at ho4; rw [← Ny113.out] at ho4)); have n0_ := Aside0.mk (Kd.R_lower ho4 (below_size (by repeat (first | (with_reducible first | exact HB.out | apply below_alloc | apply pw_below_drewN | apply below_drew1) | exact HB.out)))); have n1_ := Aside0.mk (below_step (by repeat (first | (with_reducible first | exact HB.out | apply below_alloc | apply pw_below_drewN | apply below_drew1) | exact HB.out)) hb); clear HB; have HO115 := n0_; have HB := n1_; clear n0_ n1_; clear hb ho4))
  go_loopg [5, 6] k (fun kq v5 v6 w' => ∃ (x5_1 : List Int) (x6_1 : Int), v6 = .int .i64 x6_1 ∧ Aside0 (barrowlaw02_typed.l0 kq a0 l1 x5_1 x6_1 = some r) ∧ Aside0 (kq ≤ k) ∧ Aside0 (Kd.R (Kd.int .u8) 5 w' w.heap.size (fun _ => True) v5 x5_1) ∧ Aside0 (Below w.heap.size w w'))
  case atStart => exact ⟨(y113), (0), (by first | rfl | (simp; done) | (simp [*]; done)), H', ⟨Nat.le_refl _⟩, ⟨by (with_reducible repeat (first | apply Kd.R_alloc | apply Kd.R_drewN | apply Kd.R_drew)); exact HO115.out⟩, ⟨by repeat (first | (with_reducible first | exact HB.out | apply below_alloc | apply pw_below_drewN | apply below_drew1) | exact HB.out)⟩⟩
  case round =>
    clear H'
    try clear c1
    try clear p2
    obtain ⟨x5_1, x6_1, rfl, HA, HK1, HO_5, HB⟩ := hrel
    cases gk with
    | zero => exact absurd HA.out (by simp [barrowlaw02_typed.l0])
    | succ k1 =>
      have H := HA.out
      clear HA
      simp only [barrowlaw02_typed.l0] at H
      by_cases c5 : x6_1 < (a0.size : Int)
      · rw [if_pos c5] at H
        have c5b0 : decide (x6_1 < (a0.size : Int)) = true := decide_eq_true c5
        clear c5
        have HC6 := Aside0.mk H
        clear H
        go_upto_if 19 with (fail)
        go_cut [7] (fun v7 wc => ∃ (kq : Nat) (x7_5 : Int), v7 = .int .i64 x7_5 ∧ Aside0 (barrowlaw02_typed.j1 kq a0 l1 x5_1 x6_1 x7_5 = some r) ∧ Aside0 (kq ≤ k1) ∧ Aside0 (Kd.R (Kd.int .u8) 5 wc w.heap.size (fun _ => True) u5 x5_1) ∧ Aside0 (Below w.heap.size w wc))
        case first =>
          have H := HC6.out
          clear HC6
          by_cases c7 : x6_1 < (l1.length : Int)
          · rw [if_pos c7] at H
            have c7b0 : decide (x6_1 < (l1.length : Int)) = true := decide_eq_true c7
            clear c7
            (first | rw [c7b0] | (simp only [i64_w, i32_w]; rw [c7b0]) | skip)
            by_cases c8 : 0 ≤ x6_1
            · rw [if_pos c8] at H
              have c8b0 : decide (0 ≤ x6_1) = true := decide_eq_true c8
              clear c8
              have H' := Aside0.mk H
              clear H
              have p122 : 0 ≤ (x6_1 : Int) := of_decide_eq_true (by first | (with_reducible assumption) | assumption)
              have q122 : x6_1 < (l1.length : Int) := of_decide_eq_true (by first | (with_reducible assumption) | assumption)
              obtain ⟨ad122, e122, hx122_0⟩ := Kd.at_int HR1.out x6_1 p122 q122
              cases e122
              replace hx122_0 := (HB.out.cell (World.block_lt_of_cell? w _ hx122_0)).trans hx122_0
              replace p122 := eq_true p122
              replace q122 := eq_true q122
              go_wp2
              go_meet
              case rel => exact ⟨_, (Go.bits .and .i64 (rd l1 x6_1) 7), (by first | rfl | (simp; done) | (simp [*]; done)), H', ⟨by have := HK1.out; first | omega | exact Nat.le_refl _⟩, ⟨by (with_reducible repeat (first | apply Kd.R_alloc | apply Kd.R_drewN | apply Kd.R_drew)); exact HO_5.out⟩, ⟨by repeat (first | (with_reducible first | exact HB.out | apply below_alloc | apply pw_below_drewN | apply below_drew1) | exact HB.out)⟩⟩
            · rw [if_neg c8] at H
              exact absurd H (by simp)
          · rw [if_neg c7] at H
            have c7b0 : decide (x6_1 < (l1.length : Int)) = false := decide_eq_false c7
            clear c7
            (first | rw [c7b0] | (simp only [i64_w, i32_w]; rw [c7b0]) | skip)
            have H' := Aside0.mk H
            clear H
            go_wp2
            go_meet
            case rel => exact ⟨_, (0), (by first | rfl | (simp; done) | (simp [*]; done)), H', ⟨by have := HK1.out; first | omega | exact Nat.le_refl _⟩, ⟨by (with_reducible repeat (first | apply Kd.R_alloc | apply Kd.R_drewN | apply Kd.R_drew)); exact HO_5.out⟩, ⟨by repeat (first | (with_reducible first | exact HB.out | apply below_alloc | apply pw_below_drewN | apply below_drew1) | exact HB.out)⟩⟩
        case rest =>
          clear HC6
          try clear c1
          try clear p1
          try clear q1
          try clear hx1
          try clear p2
          try clear c5
          try clear c5b0
          try clear c7
          try clear c7b0
          try clear c8
          try clear c8b0
          try clear hx122_0
          try clear p122
          try clear p2
          try clear q122
          obtain ⟨kq, x7_5, rfl, HA, HJ5, HO_5, HB⟩ := hcut
          cases kq with
          | zero => exact absurd HA.out (by simp [barrowlaw02_typed.j1])
          | succ kj5 =>
            have H := HA.out
            clear HA
            simp only [barrowlaw02_typed.j1] at H
            by_cases c9 : 0 ≤ x6_1
            · rw [if_pos c9] at H
              have c9b0 : decide (0 ≤ x6_1) = true := decide_eq_true c9
              clear c9
              by_cases c10 : x6_1 < (a0.size : Int)
              · rw [if_pos c10] at H
                have c10b0 : decide (x6_1 < (a0.size : Int)) = true := decide_eq_true c10
                clear c10
                have HC12 := Aside0.mk H
                clear H
                have p11 : 0 ≤ (x6_1 : Int) := of_decide_eq_true (by first | (with_reducible assumption) | assumption)
                have q11 : x6_1 < (a0.size : Int) := of_decide_eq_true (by first | (with_reducible assumption) | assumption)
                have hx11 := bt_at a0 x6_1
                replace p11 := eq_true p11
                replace q11 := eq_true q11
                go_upto_region 9 with (fail)
                go_cut [28] (fun v28 wc => ∃ (kq : Nat) (x28_11 : Bool), v28 = .bool x28_11 ∧ Aside0 (barrowlaw02_typed.j2 kq a0 l1 x5_1 x6_1 x7_5 (bt a0 x6_1) x28_11 = some r) ∧ Aside0 (kq ≤ kj5) ∧ Aside0 (Kd.R (Kd.int .u8) 5 wc w.heap.size (fun _ => True) u5 x5_1) ∧ Aside0 (Below w.heap.size w wc))
                case first =>
                  have H := HC12.out
                  clear HC12
                  by_cases c13 : (bt a0 x6_1) ≥ 65
                  · rw [if_pos c13] at H
                    have c13b0 : decide (65 ≤ (bt a0 x6_1)) = true := decide_eq_true c13
                    clear c13
                    (first | rw [c13b0] | (simp only [i64_w, i32_w]; rw [c13b0]) | skip)
                    by_cases c14 : (bt a0 x6_1) ≤ 90
                    · rw [if_pos c14] at H
                      have c14b0 : decide ((bt a0 x6_1) ≤ 90) = true := decide_eq_true c14
                      clear c14
                      have H' := Aside0.mk H
                      clear H
                      go_wp2
                      go_meet
                      case rel => exact ⟨_, (decide (x7_5 > 2)), (by first | rfl | (simp; done) | (simp [*]; done)), H', ⟨by have := HK1.out; have := HJ5.out; first | omega | exact Nat.le_refl _⟩, ⟨by (with_reducible repeat (first | apply Kd.R_alloc | apply Kd.R_drewN | apply Kd.R_drew)); exact HO_5.out⟩, ⟨by repeat (first | (with_reducible first | exact HB.out | apply below_alloc | apply pw_below_drewN | apply below_drew1) | exact HB.out)⟩⟩
                    · rw [if_neg c14] at H
                      have c14b0 : decide ((bt a0 x6_1) ≤ 90) = false := decide_eq_false c14
                      clear c14
                      have H' := Aside0.mk H
                      clear H
                      go_wp2
                      go_meet
                      case rel => exact ⟨_, (false), (by first | rfl | (simp; done) | (simp [*]; done)), H', ⟨by have := HK1.out; have := HJ5.out; first | omega | exact Nat.le_refl _⟩, ⟨by (with_reducible repeat (first | apply Kd.R_alloc | apply Kd.R_drewN | apply Kd.R_drew)); exact HO_5.out⟩, ⟨by repeat (first | (with_reducible first | exact HB.out | apply below_alloc | apply pw_below_drewN | apply below_drew1) | exact HB.out)⟩⟩
                  · rw [if_neg c13] at H
                    have c13b0 : decide (65 ≤ (bt a0 x6_1)) = false := decide_eq_false c13
                    clear c13
                    (first | rw [c13b0] | (simp only [i64_w, i32_w]; rw [c13b0]) | skip)
                    have H' := Aside0.mk H
                    clear H
                    go_wp2
                    go_meet
                    case rel => exact ⟨_, (false), (by first | rfl | (simp; done) | (simp [*]; done)), H', ⟨by have := HK1.out; have := HJ5.out; first | omega | exact Nat.le_refl _⟩, ⟨by (with_reducible repeat (first | apply Kd.R_alloc | apply Kd.R_drewN | apply Kd.R_drew)); exact HO_5.out⟩, ⟨by repeat (first | (with_reducible first | exact HB.out | apply below_alloc | apply pw_below_drewN | apply below_drew1) | exact HB.out)⟩⟩
                case rest =>
                  clear HC12
                  try clear c1
                  try clear p1
                  try clear q1
                  try clear hx1
                  try clear p2
                  try clear c5
                  try clear c5b0
                  try clear c7
                  try clear c7b0
                  try clear c8
                  try clear c8b0
                  try clear c9
                  try clear c9b0
                  try clear c10
                  try clear c10b0
                  try clear c11
                  try clear p11
                  try clear q11
                  try clear hx11
                  try clear p12
                  try clear q12
                  try clear hx12
                  try clear c13
                  try clear c13b0
                  try clear c14
                  try clear c14b0
                  try clear hx122_0
                  try clear p1
                  try clear p11
                  try clear p122
                  try clear p2
                  try clear q1
                  try clear q11
                  try clear q122
                  obtain ⟨kq, x28_11, rfl, HA, HJ11, HO_5, HB⟩ := hcut
                  cases kq with
                  | zero => exact absurd HA.out (by simp [barrowlaw02_typed.j2])
                  | succ kj11 =>
                    have H := HA.out
                    clear HA
                    simp only [barrowlaw02_typed.j2] at H
                    by_cases c15 : x28_11 = true
                    · subst c15
                      have H1 : (if x5_1.length < 140737488355328 then (barrowlaw02_typed.l0 kj11 a0 l1 (x5_1 ++ [((bt a0 x6_1) + 32) % 256]) (wrap64 (x6_1 + 1))) else (none)) = some r := by rw [if_pos rfl] at H; exact H
                      clear H
                      have H := H1
                      clear H1
                      by_cases c16 : x5_1.length < 140737488355328
                      · rw [if_pos c16] at H
                        have LMc16 := Aside0.mk c16
                        clear c16
                        obtain ⟨y123, hy123⟩ : ∃ y_ : List Int, y_ = (x5_1 ++ [((bt a0 x6_1) + 32) % 256]) := ⟨_, rfl⟩
                        replace H : (barrowlaw02_typed.l0 kj11 a0 l1 y123 (wrap64 (x6_1 + 1))) = some r := by first | (rw [hy123]; with_reducible exact H) | (have H2_ := (Option.bind_some _ _).symm.trans H; rw [hy123]; with_reducible exact H2_) | (have H2_ := (Option.bind_some _ _).symm.trans H; with_reducible exact H2_) | with_reducible exact H | (rw [hy123]; exact H) | exact H
                        have Ny123 := Aside0.mk hy123
                        clear hy123
                        have H' := Aside0.mk H
                        clear H
                        go_wp2_with (first | ((with_reducible refine gate_builtin (b := .append) (xs := #[.tmp 75, .tmp 77]) rfl ?_); at_builtin; refine Kd.R_append (Kd.int .u8) (w0 := w) w.heap.size rfl (.tmp 75) (.tmp 77) 34 5 (.int .u8 0) 1 rfl Try.underlying34 info5 rfl (by decide) (by omega) u5 x5_1 (((bt a0 x6_1) + 32) % 256) [.int .u8 (((bt a0 x6_1) + 32) % 256)] (fun _ => True) (fun _ => False) rfl rfl ?aP (fun _ hk => hk.elim) ?aF ?aO ?aB ?aS ?aL ?_; (case aP => exact rfl); (case aB => exact (by repeat (first | (with_reducible first | exact HB.out | apply below_alloc | apply pw_below_drewN | apply below_drew1) | exact HB.out))); (case aF => exact (fun _ _ => trivial)); (case aO => exact (by (with_reducible repeat (first | apply Kd.R_alloc | apply Kd.R_drewN | apply Kd.R_drew)); exact HO_5.out)); (case aS => exact (below_size (by repeat (first | (with_reducible first | exact HB.out | apply below_alloc | apply pw_below_drewN | apply below_drew1) | exact HB.out)))); (case aL => have := LMc16.out; omega); intro v124 w17 ho hb hg hat; rw [← Ny123.out] at ho; have n0_ := Aside0.mk (hb); have n1_ := Aside0.mk (ho); clear HB; clear HO_5; have HB := n0_; have HO125 := n1_; clear n0_ n1_; clear ho hb hg hat))
                        go_roundg kj11
                        case measure => have := HK1.out; have := HJ5.out; have := HJ11.out; omega
                        case rel => exact ⟨(y123), (wrap64 (x6_1 + 1)), (by first | rfl | (simp; done) | (simp [*]; done)), H', ⟨by have := HK1.out; have := HJ5.out; have := HJ11.out; omega⟩, ⟨by (with_reducible repeat (first | apply Kd.R_alloc | apply Kd.R_drewN | apply Kd.R_drew)); exact HO125.out⟩, ⟨by repeat (first | (with_reducible first | exact HB.out | apply below_alloc | apply pw_below_drewN | apply below_drew1) | exact HB.out)⟩⟩
                      · rw [if_neg c16] at H
                        exact absurd H (by simp)
                    · replace c15 := Bool.eq_false_iff.mpr c15
                      subst c15
                      have H1 : (if (bt a0 x6_1) = 45 then (barrowlaw02_typed.j3 kj11 a0 l1 x5_1 x6_1 x7_5 (bt a0 x6_1) (x7_5 == 1)) else (barrowlaw02_typed.j3 kj11 a0 l1 x5_1 x6_1 x7_5 (bt a0 x6_1) false)) = some r := by rw [if_neg (show ¬ (false = true) by decide)] at H; exact H
                      clear H
                      have H := H1
                      clear H1
                      have HC18 := Aside0.mk H
                      clear H
                      go_upto_region 11 with (fail)
                      go_cut [41] (fun v41 wc => ∃ (kq : Nat) (x41_17 : Bool), v41 = .bool x41_17 ∧ Aside0 (barrowlaw02_typed.j3 kq a0 l1 x5_1 x6_1 x7_5 (bt a0 x6_1) x41_17 = some r) ∧ Aside0 (kq ≤ kj11) ∧ Aside0 (Kd.R (Kd.int .u8) 5 wc w.heap.size (fun _ => True) u5 x5_1) ∧ Aside0 (Below w.heap.size w wc))
                      case first =>
                        have H := HC18.out
                        clear HC18
                        by_cases c19 : (bt a0 x6_1) = 45
                        · rw [if_pos c19] at H
                          have c19b0 : ((bt a0 x6_1) == 45) = true := beq_iff_eq.mpr c19
                          have c19b1 : ((bt a0 x6_1) != 45) = false := bne_eq_false_iff_eq.mpr c19
                          clear c19
                          (first | rw [c19b0] | (simp only [i64_w, i32_w]; rw [c19b0]) | skip)
                          have H' := Aside0.mk H
                          clear H
                          go_wp2
                          go_meet
                          case rel => exact ⟨_, ((x7_5 == 1)), (by first | rfl | (simp; done) | (simp [*]; done)), H', ⟨by have := HK1.out; have := HJ5.out; have := HJ11.out; first | omega | exact Nat.le_refl _⟩, ⟨by (with_reducible repeat (first | apply Kd.R_alloc | apply Kd.R_drewN | apply Kd.R_drew)); exact HO_5.out⟩, ⟨by repeat (first | (with_reducible first | exact HB.out | apply below_alloc | apply pw_below_drewN | apply below_drew1) | exact HB.out)⟩⟩
                        · rw [if_neg c19] at H
                          have c19b0 : ((bt a0 x6_1) == 45) = false := beq_eq_false_iff_ne.mpr c19
                          have c19b1 : ((bt a0 x6_1) != 45) = true := bne_iff_ne.mpr c19
                          (first | rw [c19b0] | (simp only [i64_w, i32_w]; rw [c19b0]) | skip)
                          have H' := Aside0.mk H
                          clear H
                          go_wp2
                          go_meet
                          case rel => exact ⟨_, (false), (by first | rfl | (simp; done) | (simp [*]; done)), H', ⟨by have := HK1.out; have := HJ5.out; have := HJ11.out; first | omega | exact Nat.le_refl _⟩, ⟨by (with_reducible repeat (first | apply Kd.R_alloc | apply Kd.R_drewN | apply Kd.R_drew)); exact HO_5.out⟩, ⟨by repeat (first | (with_reducible first | exact HB.out | apply below_alloc | apply pw_below_drewN | apply below_drew1) | exact HB.out)⟩⟩
                      case rest =>
                        clear HC18
                        try clear c1
                        try clear p1
                        try clear q1
                        try clear hx1
                        try clear p2
                        try clear c5
                        try clear c5b0
                        try clear p6
                        try clear c7
                        try clear c7b0
                        try clear c8
                        try clear c8b0
                        try clear c9
                        try clear c9b0
                        try clear c10
                        try clear c10b0
                        try clear c11
                        try clear p11
                        try clear q11
                        try clear hx11
                        try clear p12
                        try clear q12
                        try clear hx12
                        try clear c13
                        try clear c13b0
                        try clear c14
                        try clear c14b0
                        try clear c15
                        try clear c16
                        try clear c19
                        try clear c19b0
                        try clear c19b1
                        try clear hx122_0
                        try clear p1
                        try clear p11
                        try clear p12
                        try clear p122
                        try clear p2
                        try clear q1
                        try clear q11
                        try clear q12
                        try clear q122
                        obtain ⟨kq, x41_17, rfl, HA, HJ17, HO_5, HB⟩ := hcut
                        cases kq with
                        | zero => exact absurd HA.out (by simp [barrowlaw02_typed.j3])
                        | succ kj17 =>
                          have H := HA.out
                          clear HA
                          simp only [barrowlaw02_typed.j3] at H
                          by_cases c20 : x41_17 = true
                          · subst c20
                            have H1 : (if x5_1.length < 140737488355328 then (barrowlaw02_typed.l0 kj17 a0 l1 (x5_1 ++ [95]) (wrap64 (x6_1 + 1))) else (none)) = some r := by rw [if_pos rfl] at H; exact H
                            clear H
                            have H := H1
                            clear H1
                            by_cases c21 : x5_1.length < 140737488355328
                            · rw [if_pos c21] at H
                              have LMc21 := Aside0.mk c21
                              clear c21
                              obtain ⟨y126, hy126⟩ : ∃ y_ : List Int, y_ = (x5_1 ++ [95]) := ⟨_, rfl⟩
                              replace H : (barrowlaw02_typed.l0 kj17 a0 l1 y126 (wrap64 (x6_1 + 1))) = some r := by first | (rw [hy126]; with_reducible exact H) | (have H2_ := (Option.bind_some _ _).symm.trans H; rw [hy126]; with_reducible exact H2_) | (have H2_ := (Option.bind_some _ _).symm.trans H; with_reducible exact H2_) | with_reducible exact H | (rw [hy126]; exact H) | exact H
                              have Ny126 := Aside0.mk hy126
                              clear hy126
                              have H' := Aside0.mk H
                              clear H
                              go_wp2_with (first | ((with_reducible refine gate_builtin (b := .append) (xs := #[.tmp 75, .tmp 77]) rfl ?_); at_builtin; refine Kd.R_append (Kd.int .u8) (w0 := w) w.heap.size rfl (.tmp 75) (.tmp 77) 34 5 (.int .u8 0) 1 rfl Try.underlying34 info5 rfl (by decide) (by omega) u5 x5_1 95 [.int .u8 95] (fun _ => True) (fun _ => False) rfl rfl ?aP (fun _ hk => hk.elim) ?aF ?aO ?aB ?aS ?aL ?_; (case aP => exact rfl); (case aB => exact (by repeat (first | (with_reducible first | exact HB.out | apply below_alloc | apply pw_below_drewN | apply below_drew1) | exact HB.out))); (case aF => exact (fun _ _ => trivial)); (case aO => exact (by (with_reducible repeat (first | apply Kd.R_alloc | apply Kd.R_drewN | apply Kd.R_drew)); exact HO_5.out)); (case aS => exact (below_size (by repeat (first | (with_reducible first | exact HB.out | apply below_alloc | apply pw_below_drewN | apply below_drew1) | exact HB.out)))); (case aL => have := LMc21.out; omega); intro v127 w22 ho hb hg hat; rw [← Ny126.out] at ho; have n0_ := Aside0.mk (hb); have n1_ := Aside0.mk (ho); clear HB; clear HO_5; have HB := n0_; have HO128 := n1_; clear n0_ n1_; clear ho hb hg hat))
                              go_roundg kj17
                              case measure => have := HK1.out; have := HJ5.out; have := HJ11.out; have := HJ17.out; omega
                              case rel => exact ⟨(y126), (wrap64 (x6_1 + 1)), (by first | rfl | (simp; done) | (simp [*]; done)), H', ⟨by have := HK1.out; have := HJ5.out; have := HJ11.out; have := HJ17.out; omega⟩, ⟨by (with_reducible repeat (first | apply Kd.R_alloc | apply Kd.R_drewN | apply Kd.R_drew)); exact HO128.out⟩, ⟨by repeat (first | (with_reducible first | exact HB.out | apply below_alloc | apply pw_below_drewN | apply below_drew1) | exact HB.out)⟩⟩
                            · rw [if_neg c21] at H
                              exact absurd H (by simp)
                          · replace c20 := Bool.eq_false_iff.mpr c20
                            subst c20
                            have H1 : (if (bt a0 x6_1) = 45 then (barrowlaw02_typed.j4 kj17 a0 l1 x5_1 x6_1 x7_5 (bt a0 x6_1) (x7_5 == 2)) else (barrowlaw02_typed.j4 kj17 a0 l1 x5_1 x6_1 x7_5 (bt a0 x6_1) false)) = some r := by rw [if_neg (show ¬ (false = true) by decide)] at H; exact H
                            clear H
                            have H := H1
                            clear H1
                            have HC23 := Aside0.mk H
                            clear H
                            go_upto_region 13 with (fail)
                            go_cut [48] (fun v48 wc => ∃ (kq : Nat) (x48_22 : Bool), v48 = .bool x48_22 ∧ Aside0 (barrowlaw02_typed.j4 kq a0 l1 x5_1 x6_1 x7_5 (bt a0 x6_1) x48_22 = some r) ∧ Aside0 (kq ≤ kj17) ∧ Aside0 (Kd.R (Kd.int .u8) 5 wc w.heap.size (fun _ => True) u5 x5_1) ∧ Aside0 (Below w.heap.size w wc))
                            case first =>
                              have H := HC23.out
                              clear HC23
                              by_cases c24 : (bt a0 x6_1) = 45
                              · rw [if_pos c24] at H
                                have c24b0 : ((bt a0 x6_1) == 45) = true := beq_iff_eq.mpr c24
                                have c24b1 : ((bt a0 x6_1) != 45) = false := bne_eq_false_iff_eq.mpr c24
                                clear c24
                                (first | rw [c24b0] | (simp only [i64_w, i32_w]; rw [c24b0]) | skip)
                                have H' := Aside0.mk H
                                clear H
                                go_wp2
                                go_meet
                                case rel => exact ⟨_, ((x7_5 == 2)), (by first | rfl | (simp; done) | (simp [*]; done)), H', ⟨by have := HK1.out; have := HJ5.out; have := HJ11.out; have := HJ17.out; first | omega | exact Nat.le_refl _⟩, ⟨by (with_reducible repeat (first | apply Kd.R_alloc | apply Kd.R_drewN | apply Kd.R_drew)); exact HO_5.out⟩, ⟨by repeat (first | (with_reducible first | exact HB.out | apply below_alloc | apply pw_below_drewN | apply below_drew1) | exact HB.out)⟩⟩
                              · rw [if_neg c24] at H
                                have c24b0 : ((bt a0 x6_1) == 45) = false := beq_eq_false_iff_ne.mpr c24
                                have c24b1 : ((bt a0 x6_1) != 45) = true := bne_iff_ne.mpr c24
                                (first | rw [c24b0] | (simp only [i64_w, i32_w]; rw [c24b0]) | skip)
                                have H' := Aside0.mk H
                                clear H
                                go_wp2
                                go_meet
                                case rel => exact ⟨_, (false), (by first | rfl | (simp; done) | (simp [*]; done)), H', ⟨by have := HK1.out; have := HJ5.out; have := HJ11.out; have := HJ17.out; first | omega | exact Nat.le_refl _⟩, ⟨by (with_reducible repeat (first | apply Kd.R_alloc | apply Kd.R_drewN | apply Kd.R_drew)); exact HO_5.out⟩, ⟨by repeat (first | (with_reducible first | exact HB.out | apply below_alloc | apply pw_below_drewN | apply below_drew1) | exact HB.out)⟩⟩
                            case rest =>
                              clear HC23
                              try clear c1
                              try clear p1
                              try clear q1
                              try clear hx1
                              try clear c2
                              try clear p2
                              try clear c5
                              try clear c5b0
                              try clear p6
                              try clear c7
                              try clear c7b0
                              try clear c8
                              try clear c8b0
                              try clear c9
                              try clear c9b0
                              try clear c10
                              try clear c10b0
                              try clear c11
                              try clear p11
                              try clear q11
                              try clear hx11
                              try clear p12
                              try clear q12
                              try clear hx12
                              try clear c13
                              try clear c13b0
                              try clear c14
                              try clear c14b0
                              try clear c15
                              try clear c16
                              try clear c19
                              try clear c19b0
                              try clear c19b1
                              try clear c20
                              try clear c21
                              try clear c24
                              try clear c24b0
                              try clear c24b1
                              try clear hx122_0
                              try clear p1
                              try clear p11
                              try clear p12
                              try clear p122
                              try clear p2
                              try clear p6
                              try clear q1
                              try clear q11
                              try clear q12
                              try clear q122
                              obtain ⟨kq, x48_22, rfl, HA, HJ22, HO_5, HB⟩ := hcut
                              cases kq with
                              | zero => exact absurd HA.out (by simp [barrowlaw02_typed.j4])
                              | succ kj22 =>
                                have H := HA.out
                                clear HA
                                simp only [barrowlaw02_typed.j4] at H
                                by_cases c25 : x48_22 = true
                                · subst c25
                                  have H1 : (if x5_1.length < 140737488355328 then (barrowlaw02_typed.l0 kj22 a0 l1 (x5_1 ++ [47]) (wrap64 (x6_1 + 1))) else (none)) = some r := by rw [if_pos rfl] at H; exact H
                                  clear H
                                  have H := H1
                                  clear H1
                                  by_cases c26 : x5_1.length < 140737488355328
                                  · rw [if_pos c26] at H
                                    have LMc26 := Aside0.mk c26
                                    clear c26
                                    obtain ⟨y129, hy129⟩ : ∃ y_ : List Int, y_ = (x5_1 ++ [47]) := ⟨_, rfl⟩
                                    replace H : (barrowlaw02_typed.l0 kj22 a0 l1 y129 (wrap64 (x6_1 + 1))) = some r := by first | (rw [hy129]; with_reducible exact H) | (have H2_ := (Option.bind_some _ _).symm.trans H; rw [hy129]; with_reducible exact H2_) | (have H2_ := (Option.bind_some _ _).symm.trans H; with_reducible exact H2_) | with_reducible exact H | (rw [hy129]; exact H) | exact H
                                    have Ny129 := Aside0.mk hy129
                                    clear hy129
                                    have H' := Aside0.mk H
                                    clear H
                                    go_wp2_with (first | ((with_reducible refine gate_builtin (b := .append) (xs := #[.tmp 75, .tmp 77]) rfl ?_); at_builtin; refine Kd.R_append (Kd.int .u8) (w0 := w) w.heap.size rfl (.tmp 75) (.tmp 77) 34 5 (.int .u8 0) 1 rfl Try.underlying34 info5 rfl (by decide) (by omega) u5 x5_1 47 [.int .u8 47] (fun _ => True) (fun _ => False) rfl rfl ?aP (fun _ hk => hk.elim) ?aF ?aO ?aB ?aS ?aL ?_; (case aP => exact rfl); (case aB => exact (by repeat (first | (with_reducible first | exact HB.out | apply below_alloc | apply pw_below_drewN | apply below_drew1) | exact HB.out))); (case aF => exact (fun _ _ => trivial)); (case aO => exact (by (with_reducible repeat (first | apply Kd.R_alloc | apply Kd.R_drewN | apply Kd.R_drew)); exact HO_5.out)); (case aS => exact (below_size (by repeat (first | (with_reducible first | exact HB.out | apply below_alloc | apply pw_below_drewN | apply below_drew1) | exact HB.out)))); (case aL => have := LMc26.out; omega); intro v130 w27 ho hb hg hat; rw [← Ny129.out] at ho; have n0_ := Aside0.mk (hb); have n1_ := Aside0.mk (ho); clear HB; clear HO_5; have HB := n0_; have HO131 := n1_; clear n0_ n1_; clear ho hb hg hat))
                                    go_roundg kj22
                                    case measure => have := HK1.out; have := HJ5.out; have := HJ11.out; have := HJ17.out; have := HJ22.out; omega
                                    case rel => exact ⟨(y129), (wrap64 (x6_1 + 1)), (by first | rfl | (simp; done) | (simp [*]; done)), H', ⟨by have := HK1.out; have := HJ5.out; have := HJ11.out; have := HJ17.out; have := HJ22.out; omega⟩, ⟨by (with_reducible repeat (first | apply Kd.R_alloc | apply Kd.R_drewN | apply Kd.R_drew)); exact HO131.out⟩, ⟨by repeat (first | (with_reducible first | exact HB.out | apply below_alloc | apply pw_below_drewN | apply below_drew1) | exact HB.out)⟩⟩
                                  · rw [if_neg c26] at H
                                    exact absurd H (by simp)
                                · replace c25 := Bool.eq_false_iff.mpr c25
                                  subst c25
                                  have H1 : (if (bt a0 x6_1) = 45 then (barrowlaw02_typed.j5 kj22 a0 l1 x5_1 x6_1 x7_5 (bt a0 x6_1) (decide (x7_5 > 3))) else (barrowlaw02_typed.j5 kj22 a0 l1 x5_1 x6_1 x7_5 (bt a0 x6_1) false)) = some r := by rw [if_neg (show ¬ (false = true) by decide)] at H; exact H
                                  clear H
                                  have H := H1
                                  clear H1
                                  have HC28 := Aside0.mk H
                                  clear H
                                  go_upto_region 15 with (fail)
                                  go_cut [55] (fun v55 wc => ∃ (kq : Nat) (x55_27 : Bool), v55 = .bool x55_27 ∧ Aside0 (barrowlaw02_typed.j5 kq a0 l1 x5_1 x6_1 x7_5 (bt a0 x6_1) x55_27 = some r) ∧ Aside0 (kq ≤ kj22) ∧ Aside0 (Kd.R (Kd.int .u8) 5 wc w.heap.size (fun _ => True) u5 x5_1) ∧ Aside0 (Below w.heap.size w wc))
                                  case first =>
                                    have H := HC28.out
                                    clear HC28
                                    by_cases c29 : (bt a0 x6_1) = 45
                                    · rw [if_pos c29] at H
                                      have c29b0 : ((bt a0 x6_1) == 45) = true := beq_iff_eq.mpr c29
                                      have c29b1 : ((bt a0 x6_1) != 45) = false := bne_eq_false_iff_eq.mpr c29
                                      clear c29
                                      (first | rw [c29b0] | (simp only [i64_w, i32_w]; rw [c29b0]) | skip)
                                      have H' := Aside0.mk H
                                      clear H
                                      go_wp2
                                      go_meet
                                      case rel => exact ⟨_, (decide (x7_5 > 3)), (by first | rfl | (simp; done) | (simp [*]; done)), H', ⟨by have := HK1.out; have := HJ5.out; have := HJ11.out; have := HJ17.out; have := HJ22.out; first | omega | exact Nat.le_refl _⟩, ⟨by (with_reducible repeat (first | apply Kd.R_alloc | apply Kd.R_drewN | apply Kd.R_drew)); exact HO_5.out⟩, ⟨by repeat (first | (with_reducible first | exact HB.out | apply below_alloc | apply pw_below_drewN | apply below_drew1) | exact HB.out)⟩⟩
                                    · rw [if_neg c29] at H
                                      have c29b0 : ((bt a0 x6_1) == 45) = false := beq_eq_false_iff_ne.mpr c29
                                      have c29b1 : ((bt a0 x6_1) != 45) = true := bne_iff_ne.mpr c29
                                      (first | rw [c29b0] | (simp only [i64_w, i32_w]; rw [c29b0]) | skip)
                                      have H' := Aside0.mk H
                                      clear H
                                      go_wp2
                                      go_meet
                                      case rel => exact ⟨_, (false), (by first | rfl | (simp; done) | (simp [*]; done)), H', ⟨by have := HK1.out; have := HJ5.out; have := HJ11.out; have := HJ17.out; have := HJ22.out; first | omega | exact Nat.le_refl _⟩, ⟨by (with_reducible repeat (first | apply Kd.R_alloc | apply Kd.R_drewN | apply Kd.R_drew)); exact HO_5.out⟩, ⟨by repeat (first | (with_reducible first | exact HB.out | apply below_alloc | apply pw_below_drewN | apply below_drew1) | exact HB.out)⟩⟩
                                  case rest =>
                                    clear HC28
                                    try clear c1
                                    try clear p1
                                    try clear q1
                                    try clear hx1
                                    try clear c2
                                    try clear p2
                                    try clear c5
                                    try clear c5b0
                                    try clear p6
                                    try clear c7
                                    try clear c7b0
                                    try clear c8
                                    try clear c8b0
                                    try clear c9
                                    try clear c9b0
                                    try clear c10
                                    try clear c10b0
                                    try clear c11
                                    try clear p11
                                    try clear q11
                                    try clear hx11
                                    try clear p12
                                    try clear q12
                                    try clear hx12
                                    try clear c13
                                    try clear c13b0
                                    try clear c14
                                    try clear c14b0
                                    try clear c15
                                    try clear c16
                                    try clear c19
                                    try clear c19b0
                                    try clear c19b1
                                    try clear c20
                                    try clear c21
                                    try clear c24
                                    try clear c24b0
                                    try clear c24b1
                                    try clear c25
                                    try clear c26
                                    try clear c29
                                    try clear c29b0
                                    try clear c29b1
                                    try clear hx122_0
                                    try clear p1
                                    try clear p11
                                    try clear p12
                                    try clear p122
                                    try clear p2
                                    try clear p6
                                    try clear q1
                                    try clear q11
                                    try clear q12
                                    try clear q122
                                    obtain ⟨kq, x55_27, rfl, HA, HJ27, HO_5, HB⟩ := hcut
                                    cases kq with
                                    | zero => exact absurd HA.out (by simp [barrowlaw02_typed.j5])
                                    | succ kj27 =>
                                      have H := HA.out
                                      clear HA
                                      simp only [barrowlaw02_typed.j5] at H
                                      by_cases c30 : x55_27 = true
                                      · subst c30
                                        have H1 : (if x5_1.length < 140737488355328 then ((some (x5_1 ++ [32] : List Int)).bind fun y132 => (if y132.length < 140737488355328 then (barrowlaw02_typed.l0 kj27 a0 l1 (y132 ++ [(bt a0 x6_1)]) (wrap64 (x6_1 + 1))) else (none))) else (none)) = some r := by rw [if_pos rfl] at H; exact H
                                        clear H
                                        have H := H1
                                        clear H1
                                        by_cases c31 : x5_1.length < 140737488355328
                                        · rw [if_pos c31] at H
                                          have LMc31 := Aside0.mk c31
                                          clear c31
                                          obtain ⟨y132, hy132⟩ : ∃ y_ : List Int, y_ = (x5_1 ++ [32]) := ⟨_, rfl⟩
                                          replace H : (if y132.length < 140737488355328 then (barrowlaw02_typed.l0 kj27 a0 l1 (y132 ++ [(bt a0 x6_1)]) (wrap64 (x6_1 + 1))) else (none)) = some r := by first | (rw [hy132]; with_reducible exact H) | (have H2_ := (Option.bind_some _ _).symm.trans H; rw [hy132]; with_reducible exact H2_) | (have H2_ := (Option.bind_some _ _).symm.trans H; with_reducible exact H2_) | with_reducible exact H | (rw [hy132]; exact H) | exact H
                                          have Ny132 := Aside0.mk hy132
                                          clear hy132
                                          by_cases c32 : y132.length < 140737488355328
                                          · rw [if_pos c32] at H
                                            have LMc32 := Aside0.mk c32
                                            clear c32
                                            obtain ⟨y135, hy135⟩ : ∃ y_ : List Int, y_ = (y132 ++ [(bt a0 x6_1)]) := ⟨_, rfl⟩
                                            replace H : (barrowlaw02_typed.l0 kj27 a0 l1 y135 (wrap64 (x6_1 + 1))) = some r := by first | (rw [hy135]; with_reducible exact H) | (have H2_ := (Option.bind_some _ _).symm.trans H; rw [hy135]; with_reducible exact H2_) | (have H2_ := (Option.bind_some _ _).symm.trans H; with_reducible exact H2_) | with_reducible exact H | (rw [hy135]; exact H) | exact H
                                            have Ny135 := Aside0.mk hy135
                                            clear hy135
                                            have H' := Aside0.mk H
                                            clear H
                                            go_wp2_with (first | ((with_reducible refine gate_builtin (b := .append) (xs := #[.tmp 62, .tmp 63]) rfl ?_); at_builtin; refine Kd.R_append (Kd.int .u8) (w0 := w) w.heap.size rfl (.tmp 62) (.tmp 63) 34 5 (.int .u8 0) 1 rfl Try.underlying34 info5 rfl (by decide) (by omega) u5 x5_1 32 [.int .u8 32] (fun _ => True) (fun _ => False) rfl rfl ?aP (fun _ hk => hk.elim) ?aF ?aO ?aB ?aS ?aL ?_; (case aP => exact rfl); (case aB => exact (by repeat (first | (with_reducible first | exact HB.out | apply below_alloc | apply pw_below_drewN | apply below_drew1) | exact HB.out))); (case aF => exact (fun _ _ => trivial)); (case aO => exact (by (with_reducible repeat (first | apply Kd.R_alloc | apply Kd.R_drewN | apply Kd.R_drew)); exact HO_5.out)); (case aS => exact (below_size (by repeat (first | (with_reducible first | exact HB.out | apply below_alloc | apply pw_below_drewN | apply below_drew1) | exact HB.out)))); (case aL => have := LMc31.out; omega); intro v133 w33 ho hb hg hat; rw [← Ny132.out] at ho; have n0_ := Aside0.mk (hb); have n1_ := Aside0.mk (ho); clear HB; clear HO_5; have HB := n0_; have HO134 := n1_; clear n0_ n1_; clear ho hb hg hat) | ((with_reducible refine gate_builtin (b := .append) (xs := #[.tmp 75, .tmp 77]) rfl ?_); at_builtin; refine Kd.R_append (Kd.int .u8) (w0 := w) w.heap.size rfl (.tmp 75) (.tmp 77) 34 5 (.int .u8 0) 1 rfl Try.underlying34 info5 rfl (by decide) (by omega) v133 y132 (bt a0 x6_1) [.int .u8 (bt a0 x6_1)] (fun _ => True) (fun _ => False) rfl rfl ?aP (fun _ hk => hk.elim) ?aF ?aO ?aB ?aS ?aL ?_; (case aP => exact rfl); (case aB => exact (by repeat (first | (with_reducible first | exact HB.out | apply below_alloc | apply pw_below_drewN | apply below_drew1) | exact HB.out))); (case aF => exact (fun _ _ => trivial)); (case aO => exact (by (with_reducible repeat (first | apply Kd.R_alloc | apply Kd.R_drewN | apply Kd.R_drew)); exact HO134.out)); (case aS => exact (below_size (by repeat (first | (with_reducible first | exact HB.out | apply below_alloc | apply pw_below_drewN | apply below_drew1) | exact HB.out)))); (case aL => have := LMc32.out; omega); intro v136 w34 ho hb hg hat; rw [← Ny135.out] at ho; have n0_ := Aside0.mk (hb); have n1_ := Aside0.mk (ho); clear HB; clear HO134; have HB := n0_; have HO137 := n1_; clear n0_ n1_; clear ho hb hg hat))
                                            go_roundg kj27
                                            case measure => have := HK1.out; have := HJ5.out; have := HJ11.out; have := HJ17.out; have := HJ22.out; have := HJ27.out; omega
                                            case rel => exact ⟨(y135), (wrap64 (x6_1 + 1)), (by first | rfl | (simp; done) | (simp [*]; done)), H', ⟨by have := HK1.out; have := HJ5.out; have := HJ11.out; have := HJ17.out; have := HJ22.out; have := HJ27.out; omega⟩, ⟨by (with_reducible repeat (first | apply Kd.R_alloc | apply Kd.R_drewN | apply Kd.R_drew)); exact HO137.out⟩, ⟨by repeat (first | (with_reducible first | exact HB.out | apply below_alloc | apply pw_below_drewN | apply below_drew1) | exact HB.out)⟩⟩
                                          · rw [if_neg c32] at H
                                            exact absurd H (by simp)
                                        · rw [if_neg c31] at H
                                          exact absurd H (by simp)
                                      · replace c30 := Bool.eq_false_iff.mpr c30
                                        subst c30
                                        have H1 : (if (bt a0 x6_1) = 46 then (if x7_5 > 3 then (if x5_1.length < 140737488355328 then ((some (x5_1 ++ [45] : List Int)).bind fun y138 => (if y138.length < 140737488355328 then (barrowlaw02_typed.l0 kj27 a0 l1 (y138 ++ [(bt a0 x6_1)]) (wrap64 (x6_1 + 1))) else (none))) else (none)) else (if x5_1.length < 140737488355328 then (barrowlaw02_typed.l0 kj27 a0 l1 (x5_1 ++ [(bt a0 x6_1)]) (wrap64 (x6_1 + 1))) else (none))) else (if x5_1.length < 140737488355328 then (barrowlaw02_typed.l0 kj27 a0 l1 (x5_1 ++ [(bt a0 x6_1)]) (wrap64 (x6_1 + 1))) else (none))) = some r := by rw [if_neg (show ¬ (false = true) by decide)] at H; exact H
                                        clear H
                                        have H := H1
                                        clear H1
                                        by_cases c35 : (bt a0 x6_1) = 46
                                        · rw [if_pos c35] at H
                                          have c35b0 : ((bt a0 x6_1) == 46) = true := beq_iff_eq.mpr c35
                                          have c35b1 : ((bt a0 x6_1) != 46) = false := bne_eq_false_iff_eq.mpr c35
                                          clear c35
                                          by_cases c36 : x7_5 > 3
                                          · rw [if_pos c36] at H
                                            have c36b0 : decide (3 < x7_5) = true := decide_eq_true c36
                                            clear c36
                                            by_cases c37 : x5_1.length < 140737488355328
                                            · rw [if_pos c37] at H
                                              have LMc37 := Aside0.mk c37
                                              clear c37
                                              obtain ⟨y138, hy138⟩ : ∃ y_ : List Int, y_ = (x5_1 ++ [45]) := ⟨_, rfl⟩
                                              replace H : (if y138.length < 140737488355328 then (barrowlaw02_typed.l0 kj27 a0 l1 (y138 ++ [(bt a0 x6_1)]) (wrap64 (x6_1 + 1))) else (none)) = some r := by first | (rw [hy138]; with_reducible exact H) | (have H2_ := (Option.bind_some _ _).symm.trans H; rw [hy138]; with_reducible exact H2_) | (have H2_ := (Option.bind_some _ _).symm.trans H; with_reducible exact H2_) | with_reducible exact H | (rw [hy138]; exact H) | exact H
                                              have Ny138 := Aside0.mk hy138
                                              clear hy138
                                              by_cases c38 : y138.length < 140737488355328
                                              · rw [if_pos c38] at H
                                                have LMc38 := Aside0.mk c38
                                                clear c38
                                                obtain ⟨y141, hy141⟩ : ∃ y_ : List Int, y_ = (y138 ++ [(bt a0 x6_1)]) := ⟨_, rfl⟩
                                                replace H : (barrowlaw02_typed.l0 kj27 a0 l1 y141 (wrap64 (x6_1 + 1))) = some r := by first | (rw [hy141]; with_reducible exact H) | (have H2_ := (Option.bind_some _ _).symm.trans H; rw [hy141]; with_reducible exact H2_) | (have H2_ := (Option.bind_some _ _).symm.trans H; with_reducible exact H2_) | with_reducible exact H | (rw [hy141]; exact H) | exact H
                                                have Ny141 := Aside0.mk hy141
                                                clear hy141
                                                have H' := Aside0.mk H
                                                clear H
                                                go_wp2_with (first | ((with_reducible refine gate_builtin (b := .append) (xs := #[.tmp 72, .tmp 73]) rfl ?_); at_builtin; refine Kd.R_append (Kd.int .u8) (w0 := w) w.heap.size rfl (.tmp 72) (.tmp 73) 34 5 (.int .u8 0) 1 rfl Try.underlying34 info5 rfl (by decide) (by omega) u5 x5_1 45 [.int .u8 45] (fun _ => True) (fun _ => False) rfl rfl ?aP (fun _ hk => hk.elim) ?aF ?aO ?aB ?aS ?aL ?_; (case aP => exact rfl); (case aB => exact (by repeat (first | (with_reducible first | exact HB.out | apply below_alloc | apply pw_below_drewN | apply below_drew1) | exact HB.out))); (case aF => exact (fun _ _ => trivial)); (case aO => exact (by (with_reducible repeat (first | apply Kd.R_alloc | apply Kd.R_drewN | apply Kd.R_drew)); exact HO_5.out)); (case aS => exact (below_size (by repeat (first | (with_reducible first | exact HB.out | apply below_alloc | apply pw_below_drewN | apply below_drew1) | exact HB.out)))); (case aL => have := LMc37.out; omega); intro v139 w39 ho hb hg hat; rw [← Ny138.out] at ho; have n0_ := Aside0.mk (hb); have n1_ := Aside0.mk (ho); clear HB; clear HO_5; have HB := n0_; have HO140 := n1_; clear n0_ n1_; clear ho hb hg hat) | ((with_reducible refine gate_builtin (b := .append) (xs := #[.tmp 75, .tmp 77]) rfl ?_); at_builtin; refine Kd.R_append (Kd.int .u8) (w0 := w) w.heap.size rfl (.tmp 75) (.tmp 77) 34 5 (.int .u8 0) 1 rfl Try.underlying34 info5 rfl (by decide) (by omega) v139 y138 (bt a0 x6_1) [.int .u8 (bt a0 x6_1)] (fun _ => True) (fun _ => False) rfl rfl ?aP (fun _ hk => hk.elim) ?aF ?aO ?aB ?aS ?aL ?_; (case aP => exact rfl); (case aB => exact (by repeat (first | (with_reducible first | exact HB.out | apply below_alloc | apply pw_below_drewN | apply below_drew1) | exact HB.out))); (case aF => exact (fun _ _ => trivial)); (case aO => exact (by (with_reducible repeat (first | apply Kd.R_alloc | apply Kd.R_drewN | apply Kd.R_drew)); exact HO140.out)); (case aS => exact (below_size (by repeat (first | (with_reducible first | exact HB.out | apply below_alloc | apply pw_below_drewN | apply below_drew1) | exact HB.out)))); (case aL => have := LMc38.out; omega); intro v142 w40 ho hb hg hat; rw [← Ny141.out] at ho; have n0_ := Aside0.mk (hb); have n1_ := Aside0.mk (ho); clear HB; clear HO140; have HB := n0_; have HO143 := n1_; clear n0_ n1_; clear ho hb hg hat))
                                                go_roundg kj27
                                                case measure => have := HK1.out; have := HJ5.out; have := HJ11.out; have := HJ17.out; have := HJ22.out; have := HJ27.out; omega
                                                case rel => exact ⟨(y141), (wrap64 (x6_1 + 1)), (by first | rfl | (simp; done) | (simp [*]; done)), H', ⟨by have := HK1.out; have := HJ5.out; have := HJ11.out; have := HJ17.out; have := HJ22.out; have := HJ27.out; omega⟩, ⟨by (with_reducible repeat (first | apply Kd.R_alloc | apply Kd.R_drewN | apply Kd.R_drew)); exact HO143.out⟩, ⟨by repeat (first | (with_reducible first | exact HB.out | apply below_alloc | apply pw_below_drewN | apply below_drew1) | exact HB.out)⟩⟩
                                              · rw [if_neg c38] at H
                                                exact absurd H (by simp)
                                            · rw [if_neg c37] at H
                                              exact absurd H (by simp)
                                          · rw [if_neg c36] at H
                                            have c36b0 : decide (3 < x7_5) = false := decide_eq_false c36
                                            clear c36
                                            by_cases c41 : x5_1.length < 140737488355328
                                            · rw [if_pos c41] at H
                                              have LMc41 := Aside0.mk c41
                                              clear c41
                                              obtain ⟨y144, hy144⟩ : ∃ y_ : List Int, y_ = (x5_1 ++ [(bt a0 x6_1)]) := ⟨_, rfl⟩
                                              replace H : (barrowlaw02_typed.l0 kj27 a0 l1 y144 (wrap64 (x6_1 + 1))) = some r := by first | (rw [hy144]; with_reducible exact H) | (have H2_ := (Option.bind_some _ _).symm.trans H; rw [hy144]; with_reducible exact H2_) | (have H2_ := (Option.bind_some _ _).symm.trans H; with_reducible exact H2_) | with_reducible exact H | (rw [hy144]; exact H) | exact H
                                              have Ny144 := Aside0.mk hy144
                                              clear hy144
                                              have H' := Aside0.mk H
                                              clear H
                                              go_wp2_with (first | ((with_reducible refine gate_builtin (b := .append) (xs := #[.tmp 75, .tmp 77]) rfl ?_); at_builtin; refine Kd.R_append (Kd.int .u8) (w0 := w) w.heap.size rfl (.tmp 75) (.tmp 77) 34 5 (.int .u8 0) 1 rfl Try.underlying34 info5 rfl (by decide) (by omega) u5 x5_1 (bt a0 x6_1) [.int .u8 (bt a0 x6_1)] (fun _ => True) (fun _ => False) rfl rfl ?aP (fun _ hk => hk.elim) ?aF ?aO ?aB ?aS ?aL ?_; (case aP => exact rfl); (case aB => exact (by repeat (first | (with_reducible first | exact HB.out | apply below_alloc | apply pw_below_drewN | apply below_drew1) | exact HB.out))); (case aF => exact (fun _ _ => trivial)); (case aO => exact (by (with_reducible repeat (first | apply Kd.R_alloc | apply Kd.R_drewN | apply Kd.R_drew)); exact HO_5.out)); (case aS => exact (below_size (by repeat (first | (with_reducible first | exact HB.out | apply below_alloc | apply pw_below_drewN | apply below_drew1) | exact HB.out)))); (case aL => have := LMc41.out; omega); intro v145 w42 ho hb hg hat; rw [← Ny144.out] at ho; have n0_ := Aside0.mk (hb); have n1_ := Aside0.mk (ho); clear HB; clear HO_5; have HB := n0_; have HO146 := n1_; clear n0_ n1_; clear ho hb hg hat))
                                              go_roundg kj27
                                              case measure => have := HK1.out; have := HJ5.out; have := HJ11.out; have := HJ17.out; have := HJ22.out; have := HJ27.out; omega
                                              case rel => exact ⟨(y144), (wrap64 (x6_1 + 1)), (by first | rfl | (simp; done) | (simp [*]; done)), H', ⟨by have := HK1.out; have := HJ5.out; have := HJ11.out; have := HJ17.out; have := HJ22.out; have := HJ27.out; omega⟩, ⟨by (with_reducible repeat (first | apply Kd.R_alloc | apply Kd.R_drewN | apply Kd.R_drew)); exact HO146.out⟩, ⟨by repeat (first | (with_reducible first | exact HB.out | apply below_alloc | apply pw_below_drewN | apply below_drew1) | exact HB.out)⟩⟩
                                            · rw [if_neg c41] at H
                                              exact absurd H (by simp)
                                        · rw [if_neg c35] at H
                                          have c35b0 : ((bt a0 x6_1) == 46) = false := beq_eq_false_iff_ne.mpr c35
                                          have c35b1 : ((bt a0 x6_1) != 46) = true := bne_iff_ne.mpr c35
                                          by_cases c43 : x5_1.length < 140737488355328
                                          · rw [if_pos c43] at H
                                            have LMc43 := Aside0.mk c43
                                            clear c43
                                            obtain ⟨y147, hy147⟩ : ∃ y_ : List Int, y_ = (x5_1 ++ [(bt a0 x6_1)]) := ⟨_, rfl⟩
                                            replace H : (barrowlaw02_typed.l0 kj27 a0 l1 y147 (wrap64 (x6_1 + 1))) = some r := by first | (rw [hy147]; with_reducible exact H) | (have H2_ := (Option.bind_some _ _).symm.trans H; rw [hy147]; with_reducible exact H2_) | (have H2_ := (Option.bind_some _ _).symm.trans H; with_reducible exact H2_) | with_reducible exact H | (rw [hy147]; exact H) | exact H
                                            have Ny147 := Aside0.mk hy147
                                            clear hy147
                                            have H' := Aside0.mk H
                                            clear H
                                            go_wp2_with (first | ((with_reducible refine gate_builtin (b := .append) (xs := #[.tmp 75, .tmp 77]) rfl ?_); at_builtin; refine Kd.R_append (Kd.int .u8) (w0 := w) w.heap.size rfl (.tmp 75) (.tmp 77) 34 5 (.int .u8 0) 1 rfl Try.underlying34 info5 rfl (by decide) (by omega) u5 x5_1 (bt a0 x6_1) [.int .u8 (bt a0 x6_1)] (fun _ => True) (fun _ => False) rfl rfl ?aP (fun _ hk => hk.elim) ?aF ?aO ?aB ?aS ?aL ?_; (case aP => exact rfl); (case aB => exact (by repeat (first | (with_reducible first | exact HB.out | apply below_alloc | apply pw_below_drewN | apply below_drew1) | exact HB.out))); (case aF => exact (fun _ _ => trivial)); (case aO => exact (by (with_reducible repeat (first | apply Kd.R_alloc | apply Kd.R_drewN | apply Kd.R_drew)); exact HO_5.out)); (case aS => exact (below_size (by repeat (first | (with_reducible first | exact HB.out | apply below_alloc | apply pw_below_drewN | apply below_drew1) | exact HB.out)))); (case aL => have := LMc43.out; omega); intro v148 w44 ho hb hg hat; rw [← Ny147.out] at ho; have n0_ := Aside0.mk (hb); have n1_ := Aside0.mk (ho); clear HB; clear HO_5; have HB := n0_; have HO149 := n1_; clear n0_ n1_; clear ho hb hg hat))
                                            go_roundg kj27
                                            case measure => have := HK1.out; have := HJ5.out; have := HJ11.out; have := HJ17.out; have := HJ22.out; have := HJ27.out; omega
                                            case rel => exact ⟨(y147), (wrap64 (x6_1 + 1)), (by first | rfl | (simp; done) | (simp [*]; done)), H', ⟨by have := HK1.out; have := HJ5.out; have := HJ11.out; have := HJ17.out; have := HJ22.out; have := HJ27.out; omega⟩, ⟨by (with_reducible repeat (first | apply Kd.R_alloc | apply Kd.R_drewN | apply Kd.R_drew)); exact HO149.out⟩, ⟨by repeat (first | (with_reducible first | exact HB.out | apply below_alloc | apply pw_below_drewN | apply below_drew1) | exact HB.out)⟩⟩
                                          · rw [if_neg c43] at H
                                            exact absurd H (by simp)
              · rw [if_neg c10] at H
                exact absurd H (by simp)
            · rw [if_neg c9] at H
              exact absurd H (by simp)
      · rw [if_neg c5] at H
        have c5b0 : decide (x6_1 < (a0.size : Int)) = false := decide_eq_false c5
        clear c5
        obtain ⟨y116, hy116⟩ : ∃ y_ : List Int, y_ = (([47, 32] : List Int)) := ⟨_, rfl⟩
        replace H : (if x5_1.length + y116.length < 140737488355328 then (some (strOfNums (x5_1 ++ y116))) else (none)) = some r := by first | (rw [hy116]; with_reducible exact H) | (have H2_ := (Option.bind_some _ _).symm.trans H; rw [hy116]; with_reducible exact H2_) | (have H2_ := (Option.bind_some _ _).symm.trans H; with_reducible exact H2_) | with_reducible exact H | (rw [hy116]; exact H) | exact H
        have Ny116 := Aside0.mk hy116
        clear hy116
        by_cases c45 : x5_1.length + y116.length < 140737488355328
        · rw [if_pos c45] at H
          have LMc45 := Aside0.mk c45
          clear c45
          obtain ⟨y119, hy119⟩ : ∃ y_ : List Int, y_ = (x5_1 ++ y116) := ⟨_, rfl⟩
          replace H : (some (strOfNums y119)) = some r := by first | (rw [hy119]; with_reducible exact H) | (have H2_ := (Option.bind_some _ _).symm.trans H; rw [hy119]; with_reducible exact H2_) | (have H2_ := (Option.bind_some _ _).symm.trans H; with_reducible exact H2_) | with_reducible exact H | (rw [hy119]; exact H) | exact H
          have Ny119 := Aside0.mk hy119
          clear hy119
          obtain rfl := Option.some.inj H
          go_wp2_with (first | ((with_reducible refine gate_dst (N := 80) rfl ?_); refine Kd.R_lit (Kd.int .u8) _ 5 ?hg (N := 80) ?hd (xs := ([47, 32] : List Int)) (inner := [.int .u8 47, .int .u8 32]) (ok := fun _ => True) (okp := fun _ => True) ?hr ?hp (fun _ hk => hk) trivial (Below.refl _ _) (Nat.le_refl _) (by simp) ?_; (case hd => rfl); (case hg => rfl); (case hr => first | (go_simp; done) | (go_simp; rfl)); (case hp => exact (Reps.one (show Kd.M (Kd.int .u8) _ _ _ 47 [.int .u8 47] from rfl) (Reps.one (show Kd.M (Kd.int .u8) _ _ _ 32 [.int .u8 32] from rfl) (Reps.none _ _)))); intro v117 w46 ho47 hb hg_ hnew_; clear hg_ hnew_; (first | rw [← Ny116.out] at ho47 | (simp only [Int.reduceToNat] at ho47; rw [← Ny116.out] at ho47)); have n0_ := Aside0.mk (Kd.R_elder' (by (with_reducible repeat (first | apply Kd.R_alloc | apply Kd.R_drewN | apply Kd.R_drew)); exact HO_5.out) (Kd.R_base ho47) hb); have n1_ := Aside0.mk (Kd.R_lower (Kd.R_new' ho47 (Kd.R_lt (by (with_reducible repeat (first | apply Kd.R_alloc | apply Kd.R_drewN | apply Kd.R_drew)); exact HO_5.out))) (below_size (by repeat (first | (with_reducible first | exact HB.out | apply below_alloc | apply pw_below_drewN | apply below_drew1) | exact HB.out)))); have n2_ := Aside0.mk (below_step (by repeat (first | (with_reducible first | exact HB.out | apply below_alloc | apply pw_below_drewN | apply below_drew1) | exact HB.out)) hb); clear HO_5; clear HB; have HO_5 := n0_; have HO118 := n1_; have HB := n2_; clear n0_ n1_ n2_; clear hb ho47; obtain ⟨Ao49, co49, eo49⟩ := Kd.R_slice HO118.out; subst eo49) | ((with_reducible refine gate_builtin (b := .append) (xs := #[.tmp 79, .tmp 80]) rfl ?_); at_builtin; refine Kd.R_append_rows (Kd.int .u8) (w0 := w) w.heap.size rfl (.tmp 79) (.tmp 80) 34 5 (.int .u8 0) 1 rfl Try.underlying34 info5 rfl (by decide) (by omega) u5 x5_1 y116 _ _ _ (fun k_ => some k_ ≠ (.slice Ao49 y116.length co49 : Value).ownBlock) (fun _ => False) rfl rfl ?aO ?aR (fun _ _ h => h) (fun _ h => h.elim) ?aF ?aB ?aS ?aL ?_; (case aR => repeat (first | exact (Kd.R_reads' HO118.out).2.2 | (with_reducible refine Kd.C_alloc ?_ _) | (with_reducible refine Kd.C_drewN ?_ _) | (with_reducible refine Kd.C_drew ?_))); (case aB => exact (by repeat (first | (with_reducible first | exact HB.out | apply below_alloc | apply pw_below_drewN | apply below_drew1) | exact HB.out))); (case aF => exact (fun k_ hk => Kd.fresh' (Kd.R_lt (by (with_reducible repeat (first | apply Kd.R_alloc | apply Kd.R_drewN | apply Kd.R_drew)); exact HO118.out)) k_ hk)); (case aO => exact (by (with_reducible repeat (first | apply Kd.R_alloc | apply Kd.R_drewN | apply Kd.R_drew)); exact Kd.R_mono HO_5.out (fun _ hk => hk.2))); (case aS => exact (below_size (by repeat (first | (with_reducible first | exact HB.out | apply below_alloc | apply pw_below_drewN | apply below_drew1) | exact HB.out)))); (case aL => have := LMc45.out; omega); intro v120 w48 ho hb hg hat; rw [← Ny119.out] at ho; have n0_ := Aside0.mk (Kd.R_after (ok := (fun _ => True)) (by (with_reducible repeat (first | apply Kd.R_alloc | apply Kd.R_drewN | apply Kd.R_drew)); exact HO118.out) hg hat); have n1_ := Aside0.mk (hb); have n2_ := Aside0.mk (ho); clear HO118; clear HB; clear HO_5; have HO118 := n0_; have HB := n1_; have HO121 := n2_; clear n0_ n1_ n2_; clear ho hb hg hat; have hcv50 := own_string (P := Try.prog) Try.underlying34 Try.underlying5 Try.underlying9 (Kd.own_of_R HO121.out)))
          go_ret
          exact ⟨by first | rfl | (simp [errW_none, errW_some] <;> rfl) | (simp [*, errW_none, errW_some] <;> rfl), by repeat (first | (with_reducible first | exact HB.out | apply below_alloc | apply pw_below_drewN | apply below_drew1) | exact HB.out)⟩
        · rw [if_neg c45] at H
          exact absurd H (by simp)

end Go.Proofs.Ytmicghhmbojkfaa.G
