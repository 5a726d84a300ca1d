-- PRINTED by print.py (a twelfth state) out of the translation. Not trusted: Lean checks it.
import Derived.Test.YtcblhfnjcanliaaGx0
import Derived.Test.YtcblhfnjcanliaaGx1
import Derived.Test.YtcblhfnjcanliaaGx2
namespace Go.Proofs.Ytcblhfnjcanliaa.G
open Go.RowKit Go.Proofs.YtcblhfnjcanliaaW.PrintWords Go.Proofs.YtcblhfnjcanliaaW.PrintLast Go.Proofs.YtcblhfnjcanliaaW.PrintMore
attribute [local go_sem] max2_int min2_int max_two min_two max_three min_three max_four min_four   -- for this text's walks alone
set_option linter.unusedVariables false
set_option linter.unusedSimpArgs false

/-! ### barrowref01_sweep: function 9 -/
mutual
def barrowref01_sweep.l0 : Nat → List (List (S24)) → Int → List (S40) → List Int → Int → List (S24) → Int → Option ((List (S24)))
 | 0, _, _, _, _, _, _, _ => none
 | k + 1, x0, x1, x5, x6, x7, x8, x9 => if x9 < (x5.length : Int) then (if 0 ≤ x9 then (barrowref01_sweep.l1 k x0 x1 x5 x6 x7 x8 x9 ((rd_T40 x5 x9).f0)) else (none)) else (some x8)
def barrowref01_sweep.l1 : Nat → List (List (S24)) → Int → List (S40) → List Int → Int → List (S24) → Int → Int → Option ((List (S24)))
 | 0, _, _, _, _, _, _, _, _ => none
 | k + 1, x0, x1, x5, x6, x7, x8, x9, x10 => if x9 < (x5.length : Int) then (if 0 ≤ x9 then (barrowref01_sweep.j2 k x0 x1 x5 x6 x7 x8 x9 x10 (((rd_T40 x5 x9).f0) == x10)) else (none)) else (barrowref01_sweep.j2 k x0 x1 x5 x6 x7 x8 x9 x10 false)
def barrowref01_sweep.j2 : Nat → List (List (S24)) → Int → List (S40) → List Int → Int → List (S24) → Int → Int → Bool → Option ((List (S24)))
 | 0, _, _, _, _, _, _, _, _, _ => none
 | k + 1, x0, x1, x5, x6, x7, x8, x9, x10, x42 => if x42 = true then (if 0 ≤ x9 then (if x9 < (x5.length : Int) then (if 0 ≤ ((rd_T40 x5 x9).f1) then (if ((rd_T40 x5 x9).f1) < (x6.length : Int) then (if (rd x6 ((rd_T40 x5 x9).f1)) > 0 then ((some (x6.set (((rd_T40 x5 x9).f1) : Int).toNat (wrap64 ((rd x6 ((rd_T40 x5 x9).f1)) + ((rd_T40 x5 x9).f2))) : List Int)).bind fun y154 => (if (wrap64 ((rd x6 ((rd_T40 x5 x9).f1)) + ((rd_T40 x5 x9).f2))) > 0 then (barrowref01_sweep.l1 k x0 x1 x5 y154 (wrap64 ((wrap64 (x7 - 1)) + 1)) x8 (wrap64 (x9 + 1)) x10) else (barrowref01_sweep.l1 k x0 x1 x5 y154 (wrap64 (x7 - 1)) x8 (wrap64 (x9 + 1)) x10))) else ((some (x6.set (((rd_T40 x5 x9).f1) : Int).toNat (wrap64 ((rd x6 ((rd_T40 x5 x9).f1)) + ((rd_T40 x5 x9).f2))) : List Int)).bind fun y158 => (if (wrap64 ((rd x6 ((rd_T40 x5 x9).f1)) + ((rd_T40 x5 x9).f2))) > 0 then (barrowref01_sweep.l1 k x0 x1 x5 y158 (wrap64 (x7 + 1)) x8 (wrap64 (x9 + 1)) x10) else (barrowref01_sweep.l1 k x0 x1 x5 y158 x7 x8 (wrap64 (x9 + 1)) x10)))) else (none)) else (none)) else (none)) else (none)) else (if x1 = 2 then (barrowref01_sweep.j3 k x0 x1 x5 x6 x7 x8 x9 x10 (x7 == (x0.length : Int))) else (barrowref01_sweep.j3 k x0 x1 x5 x6 x7 x8 x9 x10 (decide (x7 > 0))))
def barrowref01_sweep.j3 : Nat → List (List (S24)) → Int → List (S40) → List Int → Int → List (S24) → Int → Int → Bool → Option ((List (S24)))
 | 0, _, _, _, _, _, _, _, _, _ => none
 | k + 1, x0, x1, x5, x6, x7, x8, x9, x10, x12 => if x1 = 3 then (if x7 = 1 then (if 0 < (x6.length : Int) then (barrowref01_sweep.j4 k x0 x1 x5 x6 x7 x8 x9 x10 (decide ((rd x6 0) > 0))) else (none)) else (barrowref01_sweep.j4 k x0 x1 x5 x6 x7 x8 x9 x10 false)) else (barrowref01_sweep.j4 k x0 x1 x5 x6 x7 x8 x9 x10 x12)
def barrowref01_sweep.j4 : Nat → List (List (S24)) → Int → List (S40) → List Int → Int → List (S24) → Int → Int → Bool → Option ((List (S24)))
 | 0, _, _, _, _, _, _, _, _, _ => none
 | k + 1, x0, x1, x5, x6, x7, x8, x9, x10, x12 => if x12 = true then (barrowref01_sweep.j5 k x0 x1 x5 x6 x7 x8 x9 x10 (decide (x9 ≥ (x5.length : Int)))) else (barrowref01_sweep.j5 k x0 x1 x5 x6 x7 x8 x9 x10 true)
def barrowref01_sweep.j5 : Nat → List (List (S24)) → Int → List (S40) → List Int → Int → List (S24) → Int → Int → Bool → Option ((List (S24)))
 | 0, _, _, _, _, _, _, _, _, _ => none
 | k + 1, x0, x1, x5, x6, x7, x8, x9, x10, x102 => if x102 = true then (barrowref01_sweep.l0 k x0 x1 x5 x6 x7 x8 x9) else (if 0 ≤ x9 then (if x9 < (x5.length : Int) then (if (x8.length : Int) > 0 then (if 0 ≤ (wrap64 ((x8.length : Int) - 1)) then (if (wrap64 ((x8.length : Int) - 1)) < (x8.length : Int) then (if ((rd_T24 x8 (wrap64 ((x8.length : Int) - 1))).f1) = (wrap64 (x10 - 1)) then (barrowref01_sweep.l0 k x0 x1 x5 x6 x7 (x8.set ((wrap64 ((x8.length : Int) - 1)) : Int).toNat (⟨(rd_T24 x8 (wrap64 ((x8.length : Int) - 1))).f0, wrap64 (((rd_T40 x5 x9).f0) - 1)⟩ : S24)) x9) else (if x8.length < 8796093022208 then (barrowref01_sweep.l0 k x0 x1 x5 x6 x7 (x8 ++ [(⟨x10, wrap64 (((rd_T40 x5 x9).f0) - 1)⟩ : S24)]) x9) else (none))) else (none)) else (none)) else (if x8.length < 8796093022208 then (barrowref01_sweep.l0 k x0 x1 x5 x6 x7 (x8 ++ [(⟨x10, wrap64 (((rd_T40 x5 x9).f0) - 1)⟩ : S24)]) x9) else (none))) else (none)) else (none))
end
def barrowref01_sweep.f (k : Nat) (l0 : List (List (S24))) (a1 : Int) : Option ((List (S24))) := (barrowref01_marks.f k l0).bind fun t139 => ((barrowref01_sorted.f k t139).bind fun t142 => (if 0 ≤ (l0.length : Int) then (if ((l0.length : Int) : Int).toNat ≤ 35184372088832 then (barrowref01_sweep.l0 k l0 a1 t142 (List.replicate ((l0.length : Int) : Int).toNat 0) 0 ([] : List (S24)) 0) else (none)) else (none)))
theorem barrowref01_sweep.mono_l : ∀ k, (∀ y0 y1 y2 y3 y4 y5 y6, LeO (barrowref01_sweep.l0 k y0 y1 y2 y3 y4 y5 y6) (barrowref01_sweep.l0 (k + 1) y0 y1 y2 y3 y4 y5 y6)) ∧ (∀ y0 y1 y2 y3 y4 y5 y6 y7, LeO (barrowref01_sweep.l1 k y0 y1 y2 y3 y4 y5 y6 y7) (barrowref01_sweep.l1 (k + 1) y0 y1 y2 y3 y4 y5 y6 y7)) ∧ (∀ y0 y1 y2 y3 y4 y5 y6 y7 y8, LeO (barrowref01_sweep.j2 k y0 y1 y2 y3 y4 y5 y6 y7 y8) (barrowref01_sweep.j2 (k + 1) y0 y1 y2 y3 y4 y5 y6 y7 y8)) ∧ (∀ y0 y1 y2 y3 y4 y5 y6 y7 y8, LeO (barrowref01_sweep.j3 k y0 y1 y2 y3 y4 y5 y6 y7 y8) (barrowref01_sweep.j3 (k + 1) y0 y1 y2 y3 y4 y5 y6 y7 y8)) ∧ (∀ y0 y1 y2 y3 y4 y5 y6 y7 y8, LeO (barrowref01_sweep.j4 k y0 y1 y2 y3 y4 y5 y6 y7 y8) (barrowref01_sweep.j4 (k + 1) y0 y1 y2 y3 y4 y5 y6 y7 y8)) ∧ (∀ y0 y1 y2 y3 y4 y5 y6 y7 y8, LeO (barrowref01_sweep.j5 k y0 y1 y2 y3 y4 y5 y6 y7 y8) (barrowref01_sweep.j5 (k + 1) y0 y1 y2 y3 y4 y5 y6 y7 y8))
 | 0 => ⟨fun _ _ _ _ _ _ _ r h => by simp [barrowref01_sweep.l0] at h, fun _ _ _ _ _ _ _ _ r h => by simp [barrowref01_sweep.l1] at h, fun _ _ _ _ _ _ _ _ _ r h => by simp [barrowref01_sweep.j2] at h, fun _ _ _ _ _ _ _ _ _ r h => by simp [barrowref01_sweep.j3] at h, fun _ _ _ _ _ _ _ _ _ r h => by simp [barrowref01_sweep.j4] at h, fun _ _ _ _ _ _ _ _ _ r h => by simp [barrowref01_sweep.j5] at h⟩
 | k + 1 => by
  obtain ⟨ih0, ih1, ih2, ih3, ih4, ih5⟩ := barrowref01_sweep.mono_l k
  refine ⟨?_, ?_, ?_, ?_, ?_, ?_⟩
  ·intro y0 y1 y2 y3 y4 y5 y6
   unfold barrowref01_sweep.l0
   repeat' first
   | (with_reducible exact ih0 _ _ _ _ _ _ _)
   | (with_reducible exact ih1 _ _ _ _ _ _ _ _)
   | (with_reducible exact ih2 _ _ _ _ _ _ _ _ _)
   | (with_reducible exact ih3 _ _ _ _ _ _ _ _ _)
   | (with_reducible exact ih4 _ _ _ _ _ _ _ _ _)
   | (with_reducible exact ih5 _ _ _ _ _ _ _ _ _)
   | (with_reducible exact barrowref01_marks.mono _ _)
   | (with_reducible exact barrowref01_sorted.mono _ _)
   | (with_reducible exact LeO.refl _)
   | (with_reducible exact LeO.none _)
   | (with_reducible refine LeO.ite ?_ ?_)
   | (with_reducible refine LeO.bind ?_ (fun _ => ?_))
   | exact ih0 _ _ _ _ _ _ _
   | exact ih1 _ _ _ _ _ _ _ _
   | exact ih2 _ _ _ _ _ _ _ _ _
   | exact ih3 _ _ _ _ _ _ _ _ _
   | exact ih4 _ _ _ _ _ _ _ _ _
   | exact ih5 _ _ _ _ _ _ _ _ _
   | exact barrowref01_marks.mono _ _
   | exact barrowref01_sorted.mono _ _
   | exact LeO.none _
   | refine LeO.ite ?_ ?_
   | refine LeO.bind ?_ (fun _ => ?_)
  ·intro y0 y1 y2 y3 y4 y5 y6 y7
   unfold barrowref01_sweep.l1
   repeat' first
   | (with_reducible exact ih0 _ _ _ _ _ _ _)
   | (with_reducible exact ih1 _ _ _ _ _ _ _ _)
   | (with_reducible exact ih2 _ _ _ _ _ _ _ _ _)
   | (with_reducible exact ih3 _ _ _ _ _ _ _ _ _)
   | (with_reducible exact ih4 _ _ _ _ _ _ _ _ _)
   | (with_reducible exact ih5 _ _ _ _ _ _ _ _ _)
   | (with_reducible exact barrowref01_marks.mono _ _)
   | (with_reducible exact barrowref01_sorted.mono _ _)
   | (with_reducible exact LeO.refl _)
   | (with_reducible exact LeO.none _)
   | (with_reducible refine LeO.ite ?_ ?_)
   | (with_reducible refine LeO.bind ?_ (fun _ => ?_))
   | exact ih0 _ _ _ _ _ _ _
   | exact ih1 _ _ _ _ _ _ _ _
   | exact ih2 _ _ _ _ _ _ _ _ _
   | exact ih3 _ _ _ _ _ _ _ _ _
   | exact ih4 _ _ _ _ _ _ _ _ _
   | exact ih5 _ _ _ _ _ _ _ _ _
   | exact barrowref01_marks.mono _ _
   | exact barrowref01_sorted.mono _ _
   | exact LeO.none _
   | refine LeO.ite ?_ ?_
   | refine LeO.bind ?_ (fun _ => ?_)
  ·intro y0 y1 y2 y3 y4 y5 y6 y7 y8
   unfold barrowref01_sweep.j2
   repeat' first
   | (with_reducible exact ih0 _ _ _ _ _ _ _)
   | (with_reducible exact ih1 _ _ _ _ _ _ _ _)
   | (with_reducible exact ih2 _ _ _ _ _ _ _ _ _)
   | (with_reducible exact ih3 _ _ _ _ _ _ _ _ _)
   | (with_reducible exact ih4 _ _ _ _ _ _ _ _ _)
   | (with_reducible exact ih5 _ _ _ _ _ _ _ _ _)
   | (with_reducible exact barrowref01_marks.mono _ _)
   | (with_reducible exact barrowref01_sorted.mono _ _)
   | (with_reducible exact LeO.refl _)
   | (with_reducible exact LeO.none _)
   | (with_reducible refine LeO.ite ?_ ?_)
   | (with_reducible refine LeO.bind ?_ (fun _ => ?_))
   | exact ih0 _ _ _ _ _ _ _
   | exact ih1 _ _ _ _ _ _ _ _
   | exact ih2 _ _ _ _ _ _ _ _ _
   | exact ih3 _ _ _ _ _ _ _ _ _
   | exact ih4 _ _ _ _ _ _ _ _ _
   | exact ih5 _ _ _ _ _ _ _ _ _
   | exact barrowref01_marks.mono _ _
   | exact barrowref01_sorted.mono _ _
   | exact LeO.none _
   | refine LeO.ite ?_ ?_
   | refine LeO.bind ?_ (fun _ => ?_)
  ·intro y0 y1 y2 y3 y4 y5 y6 y7 y8
   unfold barrowref01_sweep.j3
   repeat' first
   | (with_reducible exact ih0 _ _ _ _ _ _ _)
   | (with_reducible exact ih1 _ _ _ _ _ _ _ _)
   | (with_reducible exact ih2 _ _ _ _ _ _ _ _ _)
   | (with_reducible exact ih3 _ _ _ _ _ _ _ _ _)
   | (with_reducible exact ih4 _ _ _ _ _ _ _ _ _)
   | (with_reducible exact ih5 _ _ _ _ _ _ _ _ _)
   | (with_reducible exact barrowref01_marks.mono _ _)
   | (with_reducible exact barrowref01_sorted.mono _ _)
   | (with_reducible exact LeO.refl _)
   | (with_reducible exact LeO.none _)
   | (with_reducible refine LeO.ite ?_ ?_)
   | (with_reducible refine LeO.bind ?_ (fun _ => ?_))
   | exact ih0 _ _ _ _ _ _ _
   | exact ih1 _ _ _ _ _ _ _ _
   | exact ih2 _ _ _ _ _ _ _ _ _
   | exact ih3 _ _ _ _ _ _ _ _ _
   | exact ih4 _ _ _ _ _ _ _ _ _
   | exact ih5 _ _ _ _ _ _ _ _ _
   | exact barrowref01_marks.mono _ _
   | exact barrowref01_sorted.mono _ _
   | exact LeO.none _
   | refine LeO.ite ?_ ?_
   | refine LeO.bind ?_ (fun _ => ?_)
  ·intro y0 y1 y2 y3 y4 y5 y6 y7 y8
   unfold barrowref01_sweep.j4
   repeat' first
   | (with_reducible exact ih0 _ _ _ _ _ _ _)
   | (with_reducible exact ih1 _ _ _ _ _ _ _ _)
   | (with_reducible exact ih2 _ _ _ _ _ _ _ _ _)
   | (with_reducible exact ih3 _ _ _ _ _ _ _ _ _)
   | (with_reducible exact ih4 _ _ _ _ _ _ _ _ _)
   | (with_reducible exact ih5 _ _ _ _ _ _ _ _ _)
   | (with_reducible exact barrowref01_marks.mono _ _)
   | (with_reducible exact barrowref01_sorted.mono _ _)
   | (with_reducible exact LeO.refl _)
   | (with_reducible exact LeO.none _)
   | (with_reducible refine LeO.ite ?_ ?_)
   | (with_reducible refine LeO.bind ?_ (fun _ => ?_))
   | exact ih0 _ _ _ _ _ _ _
   | exact ih1 _ _ _ _ _ _ _ _
   | exact ih2 _ _ _ _ _ _ _ _ _
   | exact ih3 _ _ _ _ _ _ _ _ _
   | exact ih4 _ _ _ _ _ _ _ _ _
   | exact ih5 _ _ _ _ _ _ _ _ _
   | exact barrowref01_marks.mono _ _
   | exact barrowref01_sorted.mono _ _
   | exact LeO.none _
   | refine LeO.ite ?_ ?_
   | refine LeO.bind ?_ (fun _ => ?_)
  ·intro y0 y1 y2 y3 y4 y5 y6 y7 y8
   unfold barrowref01_sweep.j5
   repeat' first
   | (with_reducible exact ih0 _ _ _ _ _ _ _)
   | (with_reducible exact ih1 _ _ _ _ _ _ _ _)
   | (with_reducible exact ih2 _ _ _ _ _ _ _ _ _)
   | (with_reducible exact ih3 _ _ _ _ _ _ _ _ _)
   | (with_reducible exact ih4 _ _ _ _ _ _ _ _ _)
   | (with_reducible exact ih5 _ _ _ _ _ _ _ _ _)
   | (with_reducible exact barrowref01_marks.mono _ _)
   | (with_reducible exact barrowref01_sorted.mono _ _)
   | (with_reducible exact LeO.refl _)
   | (with_reducible exact LeO.none _)
   | (with_reducible refine LeO.ite ?_ ?_)
   | (with_reducible refine LeO.bind ?_ (fun _ => ?_))
   | exact ih0 _ _ _ _ _ _ _
   | exact ih1 _ _ _ _ _ _ _ _
   | exact ih2 _ _ _ _ _ _ _ _ _
   | exact ih3 _ _ _ _ _ _ _ _ _
   | exact ih4 _ _ _ _ _ _ _ _ _
   | exact ih5 _ _ _ _ _ _ _ _ _
   | exact barrowref01_marks.mono _ _
   | exact barrowref01_sorted.mono _ _
   | exact LeO.none _
   | refine LeO.ite ?_ ?_
   | refine LeO.bind ?_ (fun _ => ?_)
theorem barrowref01_sweep.mono : ∀ a0 a1 k, LeO (barrowref01_sweep.f k a0 a1) (barrowref01_sweep.f (k + 1) a0 a1) := by
 intro a0 a1 k
 obtain ⟨ih0, ih1, ih2, ih3, ih4, ih5⟩ := barrowref01_sweep.mono_l k
 unfold barrowref01_sweep.f
 repeat' first
   | (with_reducible exact ih0 _ _ _ _ _ _ _)
   | (with_reducible exact ih1 _ _ _ _ _ _ _ _)
   | (with_reducible exact ih2 _ _ _ _ _ _ _ _ _)
   | (with_reducible exact ih3 _ _ _ _ _ _ _ _ _)
   | (with_reducible exact ih4 _ _ _ _ _ _ _ _ _)
   | (with_reducible exact ih5 _ _ _ _ _ _ _ _ _)
   | (with_reducible exact barrowref01_marks.mono _ _)
   | (with_reducible exact barrowref01_sorted.mono _ _)
   | (with_reducible exact LeO.refl _)
   | (with_reducible exact LeO.none _)
   | (with_reducible refine LeO.ite ?_ ?_)
   | (with_reducible refine LeO.bind ?_ (fun _ => ?_))
   | exact ih0 _ _ _ _ _ _ _
   | exact ih1 _ _ _ _ _ _ _ _
   | exact ih2 _ _ _ _ _ _ _ _ _
   | exact ih3 _ _ _ _ _ _ _ _ _
   | exact ih4 _ _ _ _ _ _ _ _ _
   | exact ih5 _ _ _ _ _ _ _ _ _
   | exact barrowref01_marks.mono _ _
   | exact barrowref01_sorted.mono _ _
   | exact LeO.none _
   | refine LeO.ite ?_ ?_
   | refine LeO.bind ?_ (fun _ => ?_)
def barrowref01_sweep.T13 : Bool × List (List Nat × List Nat) := (true, [([], []), ([], []), ([], []), ([], []), ([2, 3], [2, 3]), ([4], [4]), ([], []), ([], []), ([6, 7], [6, 7]), ([8], [8]), ([9], [9]), ([5, 10], [5, 10]), ([0, 1, 0, 1, 2, 3, 4, 5, 6, 7, 8, 9, 10, 11], [0, 1]), ([12, 11, 0, 1, 2, 3, 4, 5, 6, 7, 8, 9, 10, 11], [11, 12])])
def barrowref01_sweep.B13 : List Nat := [0, 0, 0, 0, 12, 28, 0, 0, 192, 448, 960, 2044, 4095, 8191]
theorem barrowref01_sweep.tab13 : rtab .any (opsOf Try.f9 13) = barrowref01_sweep.T13 := by kernel_rfl
theorem barrowref01_sweep.bits13 : waitsOk barrowref01_sweep.T13.2 barrowref01_sweep.B13 = true := by kernel_rfl
set_option maxHeartbeats 8000000 in
set_option maxRecDepth 100000 in
theorem barrowref01_sweep.calls (k : Nat) (A0 : Option Addr) (c0 : Nat) (l0 : List (List (S24))) (a1 : Int) (r : List (S24)) (w : World) (hr0 : Kd.C (Kd.slice 24 k24) w A0 l0.length l0) (hc0 : l0.length ≤ c0) (h : barrowref01_sweep.f k l0 a1 = some r) :
  Calls Try.prog 9 #[.slice A0 l0.length c0, .int .i64 a1] w fun e w' => ∃ v0_ : Value, e = .returned (v0_) ∧ Kd.R k24 24 w' w.heap.size (fun _ => True) v0_ r ∧ Below w.heap.size w w' := by
 have hu24 := Try.underlying24
 have HR0 := Aside0.mk hr0
 have HC0 := Aside0.mk hc0
 clear hr0 hc0
 have HB := Aside0.mk (Below.refl w.heap.size w)
 have H : ((barrowref01_marks.f k l0).bind fun t139 => ((barrowref01_sorted.f k t139).bind fun t142 => (if 0 ≤ (l0.length : Int) then (if ((l0.length : Int) : Int).toNat ≤ 35184372088832 then (barrowref01_sweep.l0 k l0 a1 t142 (List.replicate ((l0.length : Int) : Int).toNat 0) 0 ([] : List (S24)) 0) else (none)) else (none)))) = some r := h
 clear h
 replace H := Option.bind_eq_some_iff.mp H
 obtain ⟨t139, A30, H⟩ := H
 replace H : ((barrowref01_sorted.f k t139).bind fun t142 => (if 0 ≤ (l0.length : Int) then (if ((l0.length : Int) : Int).toNat ≤ 35184372088832 then (barrowref01_sweep.l0 k l0 a1 t142 (List.replicate ((l0.length : Int) : Int).toNat 0) 0 ([] : List (S24)) 0) else (none)) else (none))) = some r := H
 have A3 := Aside0.mk A30
 clear A30
 replace H := Option.bind_eq_some_iff.mp H
 obtain ⟨t142, A40, H⟩ := H
 replace H : (if 0 ≤ (l0.length : Int) then (if ((l0.length : Int) : Int).toNat ≤ 35184372088832 then (barrowref01_sweep.l0 k l0 a1 t142 (List.replicate ((l0.length : Int) : Int).toNat 0) 0 ([] : List (S24)) 0) else (none)) else (none)) = some r := H
 have A4 := Aside0.mk A40
 clear A40
 by_cases c5 : 0 ≤ (l0.length : Int)
 ·rw [if_pos c5] at H
  have c5b0 := eq_true c5
  have c5b1 : decide (0 ≤ (l0.length : Int)) = true := decide_eq_true c5
  clear c5
  by_cases c6 : ((l0.length : Int) : Int).toNat ≤ 35184372088832
  ·rw [if_pos c6] at H
   have c6b0 := eq_true c6
   have c6b1 : decide (((l0.length : Int) : Int).toNat ≤ 35184372088832) = true := decide_eq_true c6
   clear c6
   obtain ⟨y145, hy145⟩ : ∃ y_ : List Int, y_ = (List.replicate ((l0.length : Int) : Int).toNat 0) := ⟨_, rfl⟩
   replace H : (barrowref01_sweep.l0 k l0 a1 t142 y145 0 ([] : List (S24)) 0) = some r := by first | (rw [hy145]; with_reducible exact H) | (have H2_ := (Option.bind_some _ _).symm.trans H; rw [hy145]; with_reducible exact H2_) | (have H2_ := (Option.bind_some _ _).symm.trans H; with_reducible exact H2_) | with_reducible exact H | (rw [hy145]; exact H) | exact H
   have Ny145 := Aside0.mk hy145
   clear hy145
   have H' := Aside0.mk H
   clear H
   go_enter Try.func9, Try.ntmps9
   go_wp2_with (first | ((with_reducible refine gate_callee (f := 11) rfl ?_); refine goesL_ (some 15) rfl rfl Try.func11 (by kernel_rfl) rfl #[.slice A0 l0.length c0] rfl (by (try simp only [List.map_toArray, List.map_cons, List.map_nil]); first | done | rfl | (simp only [List.length_drop, List.length_take]; rfl)) ?_; (with_reducible refine (barrowref01_marks.calls k _ _ l0 t139 _ ?side1 ?side2 A3.out).mono ?_); (case side1 => repeat (first | exact HR0.out | (with_reducible refine Kd.C_alloc ?_ _) | (with_reducible refine Kd.C_drewN ?_ _) | (with_reducible refine Kd.C_drew ?_))); (case side2 => exact HC0.out); rintro e w7 ⟨v140, rfl, ho0, hb⟩; refine ⟨_, rfl, ?_⟩; have n0_ := Aside0.mk (Kd.R_lower ho0 (below_size (by repeat (first | (with_reducible first | exact HB.out | apply below_alloc | apply pw_below_drewN | apply below_drew1) | exact HB.out)))); have n1_ := Aside0.mk (below_step (by repeat (first | (with_reducible first | exact HB.out | apply below_alloc | apply pw_below_drewN | apply below_drew1) | exact HB.out)) hb); clear HB; have HO141 := n0_; have HB := n1_; clear n0_ n1_; (try clear hb); (try clear hb2); (try clear hk); (try clear hi); (try clear ho0); obtain ⟨Ao8, co8, eo8⟩ := Kd.R_slice HO141.out; subst eo8) | ((with_reducible refine gate_callee (f := 12) rfl ?_); refine goesL_ (some 17) rfl rfl Try.func12 (by kernel_rfl) rfl #[.slice Ao8 t139.length co8] rfl (by (try simp only [List.map_toArray, List.map_cons, List.map_nil]); first | done | rfl | (simp only [List.length_drop, List.length_take]; rfl)) ?_; (with_reducible refine (barrowref01_sorted.calls k (fun k_ => some k_ = (.slice Ao8 t139.length co8 : Value).ownBlock) _ _ t139 t142 _ ?side1 A4.out).mono ?_); (case side1 => exact Kd.R_V (Kd.R_tight rfl (HO141.out))); rintro e w9 ⟨v143, rfl, ho0, hb⟩; refine ⟨_, rfl, ?_⟩; have n0_ := Aside0.mk (Kd.R_below (by (with_reducible repeat (first | apply Kd.R_alloc | apply Kd.R_drewN | apply Kd.R_drew)); exact HO141.out) hb); have n1_ := Aside0.mk (Kd.V_lower (Kd.V_mono (ok' := fun k_ => True) ho0 (fun k_ hk_ => trivial)) (below_size (by repeat (first | (with_reducible first | exact HB.out | apply below_alloc | apply pw_below_drewN | apply below_drew1) | exact HB.out)))); have n2_ := Aside0.mk (below_step (by repeat (first | (with_reducible first | exact HB.out | apply below_alloc | apply pw_below_drewN | apply below_drew1) | exact HB.out)) hb); clear HO141; clear HB; have HO141 := n0_; have HO144 := n1_; have HB := n2_; clear n0_ n1_ n2_; (try clear hb); (try clear hb2); (try clear hk); (try clear hi); (try clear ho0)) | ((with_reducible refine gate_dst (N := 20) rfl ?_); (try (refine gate_guard (by rfl) ?_; dsimp only)); refine Kd.R_make (Kd.int .i64) _ 3 rfl (N := 20) rfl 25 _ _ rfl (l0.length : Int) rfl rfl Try.underlying25 (.int .i64 0) 8 info3 rfl (by decide) (by omega) 0 (ok := fun _ => True) (okp := fun _ => True) rfl (fun _ hk => hk) trivial (of_decide_eq_true (by first | (with_reducible assumption) | assumption)) (Nat.le_trans (Nat.mul_le_mul_right _ (of_decide_eq_true (by first | (with_reducible assumption) | assumption) : (l0.length : Int).toNat ≤ 35184372088832)) (by omega)) (Below.refl _ _) (Nat.le_refl _) ?_; intro v146 w10 ho11 hb hg_ hnew_; clear hg_ hnew_; (first | rw [← Ny145.out] at ho11 | (simp only [Int.reduceToNat] at ho11; rw [← Ny145.out] at ho11)); have n0_ := Aside0.mk (Kd.R_below (by (with_reducible repeat (first | apply Kd.R_alloc | apply Kd.R_drewN | apply Kd.R_drew)); exact HO141.out) hb); have n1_ := Aside0.mk (Kd.V_elder' (by (with_reducible repeat (first | apply Kd.V_alloc | apply Kd.V_drewN | apply Kd.V_drew)); exact HO144.out) (Kd.R_base ho11) hb); have n2_ := Aside0.mk (Kd.R_lower ho11 (below_size (by repeat (first | (with_reducible first | exact HB.out | apply below_alloc | apply pw_below_drewN | apply below_drew1) | exact HB.out)))); have n3_ := Aside0.mk (below_step (by repeat (first | (with_reducible first | exact HB.out | apply below_alloc | apply pw_below_drewN | apply below_drew1) | exact HB.out)) hb); clear HO141; clear HO144; clear HB; have HO141 := n0_; have HO144 := n1_; have HO147 := n2_; have HB := n3_; clear n0_ n1_ n2_ n3_; clear hb ho11))
   go_loopg [7, 8, 9] k (fun kq v7 v8 v9 w' => ∃ (x6_1 : List Int) (x7_1 : Int) (x8_1 : List (S24)) (x9_1 : Int), v7 = .int .i64 x7_1 ∧ v9 = .int .i64 x9_1 ∧ Aside0 (barrowref01_sweep.l0 kq l0 a1 t142 x6_1 x7_1 x8_1 x9_1 = some r) ∧ Aside0 (kq ≤ k) ∧ Aside0 (Kd.V k40 40 w' w.heap.size (fun k_ => some k_ ≠ (v146 : Value).ownBlock ∧ some k_ ≠ (v8 : Value).ownBlock) v143 t142) ∧ Aside0 (Kd.R (Kd.int .i64) 3 w' w.heap.size (fun _ => True) v146 x6_1) ∧ Aside0 (Kd.R k24 24 w' w.heap.size (fun _ => True) v8 x8_1) ∧ Aside0 (Below w.heap.size w w'))
   case atStart => exact ⟨(y145), (0), (([] : List (S24))), (0), (by first | rfl | (simp; done) | (simp [*]; done)), (by first | rfl | (simp; done) | (simp [*]; done)), H', ⟨Nat.le_refl _⟩, ⟨by (with_reducible repeat (first | apply Kd.V_alloc | apply Kd.V_drewN | apply Kd.V_drew)); exact Kd.V_mono HO144.out (fun _ hk => ⟨hk.2, (by simp [Value.ownBlock])⟩)⟩, ⟨by (with_reducible repeat (first | apply Kd.R_alloc | apply Kd.R_drewN | apply Kd.R_drew)); exact HO147.out⟩, ⟨by first | exact Kd.R_nil _ _ _ _ _ | exact Kd.N_nil _ _ _ _ _ | exact Kd.V_nil _ _ _ _ _ | exact Kd.Q_nil _ _ _ _ _ | exact Kd.S_nil _ _ _ _ _⟩, ⟨by repeat (first | (with_reducible first | exact HB.out | apply below_alloc | apply pw_below_drewN | apply below_drew1) | exact HB.out)⟩⟩
   case round =>
    clear H'
    try clear c1
    try clear p2
    try clear c5
    try clear c5b0
    try clear c5b1
    try clear c6
    try clear c6b0
    try clear c6b1
    try clear c9
    try clear c11
    obtain ⟨x6_1, x7_1, x8_1, x9_1, rfl, rfl, HA, HK1, HO_5, HO_6, HO_8, HB⟩ := hrel
    cases gk with
    | zero => exact absurd HA.out (by simp [barrowref01_sweep.l0])
    | succ k1 =>
     have H := HA.out
     clear HA
     simp only [barrowref01_sweep.l0] at H
     by_cases c12 : x9_1 < (t142.length : Int)
     ·rw [if_pos c12] at H
      have c12b0 : decide (x9_1 < (t142.length : Int)) = true := decide_eq_true c12
      clear c12
      by_cases c13 : 0 ≤ x9_1
      ·rw [if_pos c13] at H
       have c13b0 : decide (0 ≤ x9_1) = true := decide_eq_true c13
       clear c13
       have H' := Aside0.mk H
       clear H
       obtain ⟨Ao14, co14, eo14⟩ := Kd.V_slice HO_5.out
       subst eo14
       have p148 : 0 ≤ (x9_1 : Int) := of_decide_eq_true (by first | (with_reducible assumption) | assumption)
       have q148 : x9_1 < (t142.length : Int) := of_decide_eq_true (by first | (with_reducible assumption) | assumption)
       obtain ⟨ad148, e148, hx148_0, hx148_1, hx148_2⟩ := at_T40 (Kd.V_reads' HO_5.out).2.2 x9_1 p148 q148
       cases e148
       replace p148 := eq_true p148
       replace q148 := eq_true q148
       go_wp2
       go_loopg [7, 9] k1 (fun kq v7 v9 w' => ∃ (x6_2 : List Int) (x7_2 : Int) (x9_2 : Int), v7 = .int .i64 x7_2 ∧ v9 = .int .i64 x9_2 ∧ Aside0 (barrowref01_sweep.l1 kq l0 a1 t142 x6_2 x7_2 x8_1 x9_2 ((rd_T40 t142 x9_1).f0) = some r) ∧ Aside0 (kq ≤ k1) ∧ Aside0 (Kd.V k40 40 w' w.heap.size (fun k_ => some k_ ≠ (v146 : Value).ownBlock ∧ some k_ ≠ (u8 : Value).ownBlock) (.slice (some ad148) t142.length co14) t142) ∧ Aside0 (Kd.R (Kd.int .i64) 3 w' w.heap.size (fun _ => True) v146 x6_2) ∧ Aside0 (Kd.R k24 24 w' w.heap.size (fun _ => True) u8 x8_1) ∧ Aside0 (Below w.heap.size w w'))
       case atStart => exact ⟨(x6_1), (x7_1), (x9_1), (by first | rfl | (simp; done) | (simp [*]; done)), (by first | rfl | (simp; done) | (simp [*]; done)), H', ⟨Nat.le_refl _⟩, ⟨by (with_reducible repeat (first | apply Kd.V_alloc | apply Kd.V_drewN | apply Kd.V_drew)); exact HO_5.out⟩, ⟨by (with_reducible repeat (first | apply Kd.R_alloc | apply Kd.R_drewN | apply Kd.R_drew)); exact HO_6.out⟩, ⟨by (with_reducible repeat (first | apply Kd.R_alloc | apply Kd.R_drewN | apply Kd.R_drew)); exact HO_8.out⟩, ⟨by repeat (first | (with_reducible first | exact HB.out | apply below_alloc | apply pw_below_drewN | apply below_drew1) | exact HB.out)⟩⟩
       case round =>
        clear H'
        try clear c1
        try clear p1
        try clear q1
        try clear hx1
        try clear p2
        try clear c5
        try clear c5b0
        try clear c5b1
        try clear c6
        try clear c6b0
        try clear c6b1
        try clear c9
        try clear c11
        try clear c12
        try clear c12b0
        try clear c13
        try clear c13b0
        try clear p14
        try clear q14
        try clear hx14
        try clear hx148_0
        try clear hx148_1
        try clear hx148_2
        try clear p148
        try clear p2
        try clear q148
        obtain ⟨x6_2, x7_2, x9_2, rfl, rfl, HA, HK2, HO_5, HO_6, HO_8, HB⟩ := hrel
        cases gk with
        | zero => exact absurd HA.out (by simp [barrowref01_sweep.l1])
        | succ k2 =>
         have H := HA.out
         clear HA
         simp only [barrowref01_sweep.l1] at H
         have HC15 := Aside0.mk H
         clear H
         go_upto_region 9 with (fail)
         go_cut [42] (fun v42 wc => ∃ (kq : Nat) (x42_14 : Bool), v42 = .bool x42_14 ∧ Aside0 (barrowref01_sweep.j2 kq l0 a1 t142 x6_2 x7_2 x8_1 x9_2 ((rd_T40 t142 x9_1).f0) x42_14 = some r) ∧ Aside0 (kq ≤ k2) ∧ Aside0 (Kd.V k40 40 wc w.heap.size (fun k_ => some k_ ≠ (v146 : Value).ownBlock ∧ some k_ ≠ (u8 : Value).ownBlock) (.slice (some ad148) t142.length co14) t142) ∧ Aside0 (Kd.R (Kd.int .i64) 3 wc w.heap.size (fun _ => True) v146 x6_2) ∧ Aside0 (Kd.R k24 24 wc w.heap.size (fun _ => True) u8 x8_1) ∧ Aside0 (Below w.heap.size w wc))
         case first =>
          have H := HC15.out
          clear HC15
          by_cases c16 : x9_2 < (t142.length : Int)
          ·rw [if_pos c16] at H
           have c16b0 : decide (x9_2 < (t142.length : Int)) = true := decide_eq_true c16
           clear c16
           (first | rw [c16b0] | (simp only [i64_w, i32_w]; rw [c16b0]) | skip)
           by_cases c17 : 0 ≤ x9_2
           ·rw [if_pos c17] at H
            have c17b0 : decide (0 ≤ x9_2) = true := decide_eq_true c17
            clear c17
            have H' := Aside0.mk H
            clear H
            have p149 : 0 ≤ (x9_2 : Int) := of_decide_eq_true (by first | (with_reducible assumption) | assumption)
            have q149 : x9_2 < (t142.length : Int) := of_decide_eq_true (by first | (with_reducible assumption) | assumption)
            obtain ⟨ad149, e149, hx149_0, hx149_1, hx149_2⟩ := at_T40 (Kd.V_reads' HO_5.out).2.2 x9_2 p149 q149
            obtain rfl : ad148 = ad149 := (by injection e149)
            replace p149 := eq_true p149
            replace q149 := eq_true q149
            go_wp2
            go_meet
            case rel => exact ⟨_, ((((rd_T40 t142 x9_2).f0) == ((rd_T40 t142 x9_1).f0))), (by first | rfl | (simp; done) | (simp [*]; done)), H', ⟨by have := HK1.out; have := HK2.out; first | omega | exact Nat.le_refl _⟩, ⟨by (with_reducible repeat (first | apply Kd.V_alloc | apply Kd.V_drewN | apply Kd.V_drew)); exact HO_5.out⟩, ⟨by (with_reducible repeat (first | apply Kd.R_alloc | apply Kd.R_drewN | apply Kd.R_drew)); exact HO_6.out⟩, ⟨by (with_reducible repeat (first | apply Kd.R_alloc | apply Kd.R_drewN | apply Kd.R_drew)); exact HO_8.out⟩, ⟨by repeat (first | (with_reducible first | exact HB.out | apply below_alloc | apply pw_below_drewN | apply below_drew1) | exact HB.out)⟩⟩
           ·rw [if_neg c17] at H
            exact absurd H (by simp)
          ·rw [if_neg c16] at H
           have c16b0 : decide (x9_2 < (t142.length : Int)) = false := decide_eq_false c16
           clear c16
           (first | rw [c16b0] | (simp only [i64_w, i32_w]; rw [c16b0]) | skip)
           have H' := Aside0.mk H
           clear H
           go_wp2
           go_meet
           case rel => exact ⟨_, (false), (by first | rfl | (simp; done) | (simp [*]; done)), H', ⟨by have := HK1.out; have := HK2.out; first | omega | exact Nat.le_refl _⟩, ⟨by (with_reducible repeat (first | apply Kd.V_alloc | apply Kd.V_drewN | apply Kd.V_drew)); exact HO_5.out⟩, ⟨by (with_reducible repeat (first | apply Kd.R_alloc | apply Kd.R_drewN | apply Kd.R_drew)); exact HO_6.out⟩, ⟨by (with_reducible repeat (first | apply Kd.R_alloc | apply Kd.R_drewN | apply Kd.R_drew)); exact HO_8.out⟩, ⟨by repeat (first | (with_reducible first | exact HB.out | apply below_alloc | apply pw_below_drewN | apply below_drew1) | exact HB.out)⟩⟩
         case rest =>
          clear HC15
          try clear c1
          try clear p1
          try clear q1
          try clear hx1
          try clear p2
          try clear c5
          try clear c5b0
          try clear c5b1
          try clear c6
          try clear c6b0
          try clear c6b1
          try clear c9
          try clear c11
          try clear c12
          try clear c12b0
          try clear c13
          try clear c13b0
          try clear p14
          try clear q14
          try clear hx14
          try clear c16
          try clear c16b0
          try clear c17
          try clear c17b0
          try clear hx148_0
          try clear hx148_1
          try clear hx148_2
          try clear hx149_0
          try clear hx149_1
          try clear hx149_2
          try clear p1
          try clear p14
          try clear p148
          try clear p149
          try clear p2
          try clear q1
          try clear q14
          try clear q148
          try clear q149
          obtain ⟨kq, x42_14, rfl, HA, HJ14, HO_5, HO_6, HO_8, HB⟩ := hcut
          cases kq with
          | zero => exact absurd HA.out (by simp [barrowref01_sweep.j2])
          | succ kj14 =>
           have H := HA.out
           clear HA
           simp only [barrowref01_sweep.j2] at H
           by_cases c18 : x42_14 = true
           ·subst c18
            have H1 : (if 0 ≤ x9_2 then (if x9_2 < (t142.length : Int) then (if 0 ≤ ((rd_T40 t142 x9_2).f1) then (if ((rd_T40 t142 x9_2).f1) < (x6_2.length : Int) then (if (rd x6_2 ((rd_T40 t142 x9_2).f1)) > 0 then ((some (x6_2.set (((rd_T40 t142 x9_2).f1) : Int).toNat (wrap64 ((rd x6_2 ((rd_T40 t142 x9_2).f1)) + ((rd_T40 t142 x9_2).f2))) : List Int)).bind fun y154 => (if (wrap64 ((rd x6_2 ((rd_T40 t142 x9_2).f1)) + ((rd_T40 t142 x9_2).f2))) > 0 then (barrowref01_sweep.l1 kj14 l0 a1 t142 y154 (wrap64 ((wrap64 (x7_2 - 1)) + 1)) x8_1 (wrap64 (x9_2 + 1)) ((rd_T40 t142 x9_1).f0)) else (barrowref01_sweep.l1 kj14 l0 a1 t142 y154 (wrap64 (x7_2 - 1)) x8_1 (wrap64 (x9_2 + 1)) ((rd_T40 t142 x9_1).f0)))) else ((some (x6_2.set (((rd_T40 t142 x9_2).f1) : Int).toNat (wrap64 ((rd x6_2 ((rd_T40 t142 x9_2).f1)) + ((rd_T40 t142 x9_2).f2))) : List Int)).bind fun y158 => (if (wrap64 ((rd x6_2 ((rd_T40 t142 x9_2).f1)) + ((rd_T40 t142 x9_2).f2))) > 0 then (barrowref01_sweep.l1 kj14 l0 a1 t142 y158 (wrap64 (x7_2 + 1)) x8_1 (wrap64 (x9_2 + 1)) ((rd_T40 t142 x9_1).f0)) else (barrowref01_sweep.l1 kj14 l0 a1 t142 y158 x7_2 x8_1 (wrap64 (x9_2 + 1)) ((rd_T40 t142 x9_1).f0))))) else (none)) else (none)) else (none)) else (none)) = some r := by rw [if_pos rfl] at H; exact H
            clear H
            have H := H1
            clear H1
            by_cases c19 : 0 ≤ x9_2
            ·rw [if_pos c19] at H
             have c19b0 : decide (0 ≤ x9_2) = true := decide_eq_true c19
             clear c19
             by_cases c20 : x9_2 < (t142.length : Int)
             ·rw [if_pos c20] at H
              have c20b0 : decide (x9_2 < (t142.length : Int)) = true := decide_eq_true c20
              clear c20
              by_cases c21 : 0 ≤ ((rd_T40 t142 x9_2).f1)
              ·rw [if_pos c21] at H
               have c21b0 : decide (0 ≤ ((rd_T40 t142 x9_2).f1)) = true := decide_eq_true c21
               clear c21
               by_cases c22 : ((rd_T40 t142 x9_2).f1) < (x6_2.length : Int)
               ·rw [if_pos c22] at H
                have c22b0 : decide (((rd_T40 t142 x9_2).f1) < (x6_2.length : Int)) = true := decide_eq_true c22
                clear c22
                by_cases c23 : (rd x6_2 ((rd_T40 t142 x9_2).f1)) > 0
                ·rw [if_pos c23] at H
                 have c23b0 : decide (0 < (rd x6_2 ((rd_T40 t142 x9_2).f1))) = true := decide_eq_true c23
                 clear c23
                 obtain ⟨y154, hy154⟩ : ∃ y_ : List Int, y_ = (x6_2.set (((rd_T40 t142 x9_2).f1) : Int).toNat (wrap64 ((rd x6_2 ((rd_T40 t142 x9_2).f1)) + ((rd_T40 t142 x9_2).f2)))) := ⟨_, rfl⟩
                 replace H : (if (wrap64 ((rd x6_2 ((rd_T40 t142 x9_2).f1)) + ((rd_T40 t142 x9_2).f2))) > 0 then (barrowref01_sweep.l1 kj14 l0 a1 t142 y154 (wrap64 ((wrap64 (x7_2 - 1)) + 1)) x8_1 (wrap64 (x9_2 + 1)) ((rd_T40 t142 x9_1).f0)) else (barrowref01_sweep.l1 kj14 l0 a1 t142 y154 (wrap64 (x7_2 - 1)) x8_1 (wrap64 (x9_2 + 1)) ((rd_T40 t142 x9_1).f0))) = some r := by first | (rw [hy154]; with_reducible exact H) | (have H2_ := (Option.bind_some _ _).symm.trans H; rw [hy154]; with_reducible exact H2_) | (have H2_ := (Option.bind_some _ _).symm.trans H; with_reducible exact H2_) | with_reducible exact H | (rw [hy154]; exact H) | exact H
                 have Ny154 := Aside0.mk hy154
                 clear hy154
                 by_cases c26 : (wrap64 ((rd x6_2 ((rd_T40 t142 x9_2).f1)) + ((rd_T40 t142 x9_2).f2))) > 0
                 ·rw [if_pos c26] at H
                  have c26b0 : decide (0 < (wrap64 ((rd x6_2 ((rd_T40 t142 x9_2).f1)) + ((rd_T40 t142 x9_2).f2)))) = true := decide_eq_true c26
                  clear c26
                  have H' := Aside0.mk H
                  clear H
                  have p150 : 0 ≤ (x9_2 : Int) := of_decide_eq_true (by first | (with_reducible assumption) | assumption)
                  have q150 : x9_2 < (t142.length : Int) := of_decide_eq_true (by first | (with_reducible assumption) | assumption)
                  obtain ⟨ad150, e150, hx150_0, hx150_1, hx150_2⟩ := at_T40 (Kd.V_reads' HO_5.out).2.2 x9_2 p150 q150
                  obtain rfl : ad148 = ad150 := (by injection e150)
                  replace p150 := eq_true p150
                  replace q150 := eq_true q150
                  obtain ⟨Ao27, co27, eo27⟩ := Kd.R_slice HO_6.out
                  subst eo27
                  have p151 : 0 ≤ (((rd_T40 t142 x9_2).f1) : Int) := of_decide_eq_true (by first | (with_reducible assumption) | assumption)
                  have q151 : ((rd_T40 t142 x9_2).f1) < (x6_2.length : Int) := of_decide_eq_true (by first | (with_reducible assumption) | assumption)
                  obtain ⟨ad151, e151, hx151_0⟩ := Kd.at_int (Kd.R_reads' HO_6.out).2.2 ((rd_T40 t142 x9_2).f1) p151 q151
                  cases e151
                  replace p151 := eq_true p151
                  replace q151 := eq_true q151
                  try go_wp2
                  have n0_ := Aside0.mk (Kd.V_drew HO_5.out)
                  have n1_ := Aside0.mk (Kd.R_drew HO_6.out)
                  have n2_ := Aside0.mk (Kd.R_drew HO_8.out)
                  have n3_ := Aside0.mk (below_drew1 HB.out)
                  clear HO_5
                  clear HO_6
                  clear HO_8
                  clear HB
                  have HO_5 := n0_
                  have HO_6 := n1_
                  have HO_8 := n2_
                  have HB := n3_
                  clear n0_ n1_ n2_ n3_
                  have p152 : 0 ≤ (((rd_T40 t142 x9_2).f1) : Int) := of_decide_eq_true (by first | (with_reducible assumption) | assumption)
                  have q152 : ((rd_T40 t142 x9_2).f1) < (x6_2.length : Int) := of_decide_eq_true (by first | (with_reducible assumption) | assumption)
                  obtain ⟨ad152, e152, hx152_0⟩ := Kd.at_int (Kd.R_reads' HO_6.out).2.2 ((rd_T40 t142 x9_2).f1) p152 q152
                  obtain rfl : ad151 = ad152 := (by injection e152)
                  replace p152 := eq_true p152
                  replace q152 := eq_true q152
                  have p153 : 0 ≤ (x9_2 : Int) := of_decide_eq_true (by first | (with_reducible assumption) | assumption)
                  have q153 : x9_2 < (t142.length : Int) := of_decide_eq_true (by first | (with_reducible assumption) | assumption)
                  obtain ⟨ad153, e153, hx153_0, hx153_1, hx153_2⟩ := at_T40 (Kd.V_reads' HO_5.out).2.2 x9_2 p153 q153
                  obtain rfl : ad148 = ad153 := (by injection e153)
                  replace p153 := eq_true p153
                  replace q153 := eq_true q153
                  have p24 : 0 ≤ (((rd_T40 t142 x9_2).f1) : Int) := of_decide_eq_true (by first | (with_reducible assumption) | assumption)
                  have q24 : (((rd_T40 t142 x9_2).f1) : Int) < ((x6_2.length : Int) : Int) := of_decide_eq_true (by first | (with_reducible assumption) | assumption)
                  obtain ⟨go24, co24, eo24, gb24, gl24, cl24, HG24⟩ := Kd.R_form HO_6.out (by omega)
                  (first | cases eo24 | (injection eo24 with ea_ en_ ec_; (first | subst ea_ | (injection ea_ with ea_; subst ea_)); subst ec_; clear en_))
                  have GB24 := Aside0.mk gb24
                  have GG24 := Aside0.mk HG24
                  clear gb24 gl24 HG24
                  (first | simp only [add_plain] at hx151_0 | skip)
                  (first | simp only [add_plain] at hx152_0 | skip)
                  obtain ⟨hx24_0, hf24_0⟩ := Kd.R_celln 0 HO_6.out (((rd_T40 t142 x9_2).f1) : Int) p24 q24
                  replace p24 := eq_true p24
                  replace q24 := eq_true q24
                  have HP29 := Kd.R_putn HO_6.out (((rd_T40 t142 x9_2).f1) : Int) (wrap64 ((rd x6_2 ((rd_T40 t142 x9_2).f1)) + ((rd_T40 t142 x9_2).f2)))
                  rw [← Ny154.out] at HP29
                  have HQ29 := Aside0.mk HP29
                  clear HP29
                  refine start_ (n := 14) (S := fun w' => w'.cell? ⟨go24, (((rd_T40 t142 x9_2).f1)).toNat, none⟩ = some (.int .i64 (rd x6_2 ((rd_T40 t142 x9_2).f1))) ∧ w'.cell? (ad148.add ((x9_2).toNat * 3)) = some (.int .i64 ((rd_T40 t142 x9_2).f0)) ∧ w'.cell? ⟨(ad148.add ((x9_2).toNat * 3)).block, (ad148.add ((x9_2).toNat * 3)).off + 1, none⟩ = some (.int .i64 ((rd_T40 t142 x9_2).f1)) ∧ w'.cell? ⟨(ad148.add ((x9_2).toNat * 3)).block, (ad148.add ((x9_2).toNat * 3)).off + 2, none⟩ = some (.int .i64 ((rd_T40 t142 x9_2).f2))) (ds := [13]) #[false, false, false, false, false, false, false, false, false, false, false, false, false, false] (by kernel_rfl) rfl rfl ⟨hx152_0, hx153_0, hx153_1, hx153_2⟩ (fun hHeld => ?_); refine with_tabW barrowref01_sweep.tab13 barrowref01_sweep.bits13 (fun HT_ HW_ => ?_)
                  generalize wc.drew = w28 at HO_5 HO_6 HO_8 HB GG24 HQ29 hf24_0 hx151_0 hx152_0 hx153_0 hx153_1 hx153_2 hx24_0 hHeld ⊢
                  refine pure_ (i := 0) (N := some 55) (v := ?_) (a' := ?_) #[true, false, false, false, false, false, false, false, false, false, false, false, false, false] rfl rfl (any_of HT_.out (by kernel_rfl)) (fun _ _ _ h => h) (Or.inl ⟨by rfl, ?_⟩) ?_ ?_
                  rotate_left
                  ·intro w'
                   go_simp
                   with_reducible rfl
                  rotate_left
                  ·simp only [Act.put, List.setIfInBounds_toArray, List.set_cons_zero, List.set_cons_succ, i64_w, i32_w]
                   rfl
                  refine pure_ (i := 1) (N := some 56) (v := ?_) (a' := ?_) #[true, true, false, false, false, false, false, false, false, false, false, false, false, false] rfl rfl (any_of HT_.out (by kernel_rfl)) (fun _ _ _ h => h) (Or.inl ⟨by rfl, ?_⟩) ?_ ?_
                  rotate_left
                  ·intro w'
                   go_simp
                   with_reducible rfl
                  rotate_left
                  ·simp only [Act.put, List.setIfInBounds_toArray, List.set_cons_zero, List.set_cons_succ, i64_w, i32_w]
                   rfl
                  refine pure_ (i := 2) (N := some 57) (v := ?_) (a' := ?_) #[true, true, true, false, false, false, false, false, false, false, false, false, false, false] rfl rfl (any_of HT_.out (by kernel_rfl)) (fun _ _ _ h => h) (Or.inl ⟨by rfl, ?_⟩) ?_ ?_
                  rotate_left
                  ·intro w'
                   go_simp
                   with_reducible rfl
                  rotate_left
                  ·simp only [Act.put, List.setIfInBounds_toArray, List.set_cons_zero, List.set_cons_succ, i64_w, i32_w]
                   rfl
                  refine pure_ (i := 3) (N := some 58) (v := ?_) (a' := ?_) #[true, true, true, true, false, false, false, false, false, false, false, false, false, false] rfl rfl (any_of HT_.out (by kernel_rfl)) (fun _ _ _ h => h) (Or.inl ⟨by rfl, ?_⟩) ?_ ?_
                  rotate_left
                  ·intro w'
                   go_simp
                   with_reducible rfl
                  rotate_left
                  ·simp only [Act.put, List.setIfInBounds_toArray, List.set_cons_zero, List.set_cons_succ, i64_w, i32_w]
                   rfl
                  refine pure_ (i := 4) (N := some 59) (v := ?_) (a' := ?_) #[true, true, true, true, true, false, false, false, false, false, false, false, false, false] rfl rfl (any_of HT_.out (by kernel_rfl)) (fun _ _ _ h => h) (Or.inl ⟨by rfl, ?_⟩) ?_ ?_
                  rotate_left
                  ·intro w'
                   go_simp
                   with_reducible rfl
                  rotate_left
                  ·simp only [Act.put, List.setIfInBounds_toArray, List.set_cons_zero, List.set_cons_succ, i64_w, i32_w]
                   rfl
                  refine pure_ (i := 6) (N := some 61) (v := ?_) (a' := ?_) #[true, true, true, true, true, false, true, false, false, false, false, false, false, false] rfl rfl (any_of HT_.out (by kernel_rfl)) (fun _ _ _ h => h) (Or.inl ⟨by rfl, ?_⟩) ?_ ?_
                  rotate_left
                  ·intro w'
                   go_simp
                   with_reducible rfl
                  rotate_left
                  ·simp only [Act.put, List.setIfInBounds_toArray, List.set_cons_zero, List.set_cons_succ, i64_w, i32_w]
                   rfl
                  refine pure_ (i := 7) (N := some 62) (v := ?_) (a' := ?_) #[true, true, true, true, true, false, true, true, false, false, false, false, false, false] rfl rfl (any_of HT_.out (by kernel_rfl)) (fun _ _ _ h => h) (Or.inl ⟨by rfl, ?_⟩) ?_ ?_
                  rotate_left
                  ·intro w'
                   go_simp
                   with_reducible rfl
                  rotate_left
                  ·simp only [Act.put, List.setIfInBounds_toArray, List.set_cons_zero, List.set_cons_succ, i64_w, i32_w]
                   rfl
                  refine pure_ (i := 8) (N := some 63) (v := ?_) (a' := ?_) #[true, true, true, true, true, false, true, true, true, false, false, false, false, false] rfl rfl (any_of HT_.out (by kernel_rfl)) (fun _ _ _ h => h) (Or.inl ⟨by rfl, ?_⟩) ?_ ?_
                  rotate_left
                  ·intro w'
                   go_simp
                   with_reducible rfl
                  rotate_left
                  ·simp only [Act.put, List.setIfInBounds_toArray, List.set_cons_zero, List.set_cons_succ, i64_w, i32_w]
                   rfl
                  refine pure_ (i := 9) (N := some 64) (v := ?_) (a' := ?_) #[true, true, true, true, true, false, true, true, true, true, false, false, false, false] rfl rfl (any_of HT_.out (by kernel_rfl)) (fun _ _ _ h => h) (Or.inl ⟨by rfl, ?_⟩) ?_ ?_
                  rotate_left
                  ·intro w'
                   go_simp
                   with_reducible rfl
                  rotate_left
                  ·simp only [Act.put, List.setIfInBounds_toArray, List.set_cons_zero, List.set_cons_succ, i64_w, i32_w]
                   rfl
                  refine take_ (i := 5) (N := some 60) (v := ?_) (a' := ?_) #[true, true, true, true, true, true, true, true, true, true, false, false, false, false] rfl rfl (take_ofW HT_.out HW_.out (by kernel_rfl)) (fun _ _ _ h => h) (Or.inl ⟨by rfl, ?_⟩) hHeld ?_ ?_
                  rotate_left
                  ·rintro w' ⟨s0, s1, s2, s3⟩
                   go_simp
                   with_reducible rfl
                  rotate_left
                  ·simp only [Act.put, List.setIfInBounds_toArray, List.set_cons_zero, List.set_cons_succ, i64_w, i32_w]
                   rfl
                  refine take_ (i := 10) (N := some 65) (v := ?_) (a' := ?_) #[true, true, true, true, true, true, true, true, true, true, true, false, false, false] rfl rfl (take_ofW HT_.out HW_.out (by kernel_rfl)) (fun _ _ _ h => h) (Or.inl ⟨by rfl, ?_⟩) hHeld ?_ ?_
                  rotate_left
                  ·rintro w' ⟨s0, s1, s2, s3⟩
                   go_simp
                   with_reducible rfl
                  rotate_left
                  ·simp only [Act.put, List.setIfInBounds_toArray, List.set_cons_zero, List.set_cons_succ, i64_w, i32_w]
                   rfl
                  refine pure_ (i := 11) (N := some 66) (v := ?_) (a' := ?_) #[true, true, true, true, true, true, true, true, true, true, true, true, false, false] rfl rfl (any_of HT_.out (by kernel_rfl)) (fun _ _ _ h => h) (Or.inl ⟨by rfl, ?_⟩) ?_ ?_
                  rotate_left
                  ·intro w'
                   go_simp
                   with_reducible rfl
                  rotate_left
                  ·simp only [Act.put, List.setIfInBounds_toArray, List.set_cons_zero, List.set_cons_succ, i64_w, i32_w]
                   rfl
                  refine pure_ (i := 12) (N := some 67) (v := ?_) (a' := ?_) #[true, true, true, true, true, true, true, true, true, true, true, true, true, false] rfl rfl (any_of HT_.out (by kernel_rfl)) (fun _ _ _ h => h) (Or.inl ⟨by rfl, ?_⟩) ?_ ?_
                  rotate_left
                  ·intro w'
                   go_simp
                   with_reducible rfl
                  rotate_left
                  ·simp only [Act.put, List.setIfInBounds_toArray, List.set_cons_zero, List.set_cons_succ, i64_w, i32_w]
                   rfl
                  refine last_ (i := 13) (N := none) #[true, true, true, true, true, true, true, true, true, true, true, true, true, true] rfl rfl (one_of HT_.out (by kernel_rfl)) (by decide) (fun K hK => ?_)
                  refine skip_ (w1 := ?_) (by rfl) rfl ?_ ?_
                  rotate_left
                  ·go_simp
                   rfl
                  refine hK.out _ _ ?_
                  clear hK K
                  refine done_ (done_of HT_.out (by kernel_rfl)) ?_
                  have p25 : 0 ≤ (((rd_T40 t142 x9_2).f1) : Int) := of_decide_eq_true (by first | (with_reducible assumption) | assumption)
                  have q25 : (((rd_T40 t142 x9_2).f1) : Int) < ((x6_2.length : Int) : Int) := of_decide_eq_true (by first | (with_reducible assumption) | assumption)
                  replace p25 := eq_true p25
                  replace q25 := eq_true q25
                  try go_wp2
                  go_roundg kj14
                  case measure => have := HK1.out; have := HK2.out; have := HJ14.out; omega
                  case rel => exact ⟨(y154), (wrap64 ((wrap64 (x7_2 - 1)) + 1)), (wrap64 (x9_2 + 1)), (by first | rfl | (simp; done) | (simp [*]; done)), (by first | rfl | (simp; done) | (simp [*]; done)), H', ⟨by have := HK1.out; have := HK2.out; have := HJ14.out; omega⟩, ⟨by (with_reducible repeat (first | apply Kd.V_alloc | apply Kd.V_drewN | apply Kd.V_drew)); exact Kd.V_mono (Kd.V_far (p := ⟨go24, (((rd_T40 t142 x9_2).f1) : Int).toNat, none⟩) (Kd.V_mono HO_5.out (fun k_ hk => (⟨hk, fun e_ => hk.1 (by rw [e_]; rfl)⟩ : _ ∧ k_ ≠ go24))) (fun _ hk => hk.2) (.int .i64 (wrap64 ((rd x6_2 ((rd_T40 t142 x9_2).f1)) + ((rd_T40 t142 x9_2).f2))))) (fun _ hk => ⟨hk.1.1, hk.1.2⟩)⟩, ⟨by (with_reducible repeat (first | apply Kd.R_alloc | apply Kd.R_drewN | apply Kd.R_drew)); exact HQ29.out⟩, ⟨by (with_reducible repeat (first | apply Kd.R_alloc | apply Kd.R_drewN | apply Kd.R_drew)); exact Kd.R_mono (Kd.R_far (p := ⟨go24, (((rd_T40 t142 x9_2).f1) : Int).toNat, none⟩) (Kd.R_types HO_8.out GG24.out (by decide)) (fun _ hk => hk.2) (.int .i64 (wrap64 ((rd x6_2 ((rd_T40 t142 x9_2).f1)) + ((rd_T40 t142 x9_2).f2))))) (fun _ hk => trivial)⟩, ⟨by repeat (first | (with_reducible first | exact HB.out | apply below_alloc | apply pw_below_drewN | apply below_drew1 | refine below_set ?_ GB24.out) | exact HB.out)⟩⟩
                 ·rw [if_neg c26] at H
                  have c26b0 : decide (0 < (wrap64 ((rd x6_2 ((rd_T40 t142 x9_2).f1)) + ((rd_T40 t142 x9_2).f2)))) = false := decide_eq_false c26
                  clear c26
                  have H' := Aside0.mk H
                  clear H
                  have p150 : 0 ≤ (x9_2 : Int) := of_decide_eq_true (by first | (with_reducible assumption) | assumption)
                  have q150 : x9_2 < (t142.length : Int) := of_decide_eq_true (by first | (with_reducible assumption) | assumption)
                  obtain ⟨ad150, e150, hx150_0, hx150_1, hx150_2⟩ := at_T40 (Kd.V_reads' HO_5.out).2.2 x9_2 p150 q150
                  obtain rfl : ad148 = ad150 := (by injection e150)
                  replace p150 := eq_true p150
                  replace q150 := eq_true q150
                  obtain ⟨Ao30, co30, eo30⟩ := Kd.R_slice HO_6.out
                  subst eo30
                  have p151 : 0 ≤ (((rd_T40 t142 x9_2).f1) : Int) := of_decide_eq_true (by first | (with_reducible assumption) | assumption)
                  have q151 : ((rd_T40 t142 x9_2).f1) < (x6_2.length : Int) := of_decide_eq_true (by first | (with_reducible assumption) | assumption)
                  obtain ⟨ad151, e151, hx151_0⟩ := Kd.at_int (Kd.R_reads' HO_6.out).2.2 ((rd_T40 t142 x9_2).f1) p151 q151
                  cases e151
                  replace p151 := eq_true p151
                  replace q151 := eq_true q151
                  try go_wp2
                  have n0_ := Aside0.mk (Kd.V_drew HO_5.out)
                  have n1_ := Aside0.mk (Kd.R_drew HO_6.out)
                  have n2_ := Aside0.mk (Kd.R_drew HO_8.out)
                  have n3_ := Aside0.mk (below_drew1 HB.out)
                  clear HO_5
                  clear HO_6
                  clear HO_8
                  clear HB
                  have HO_5 := n0_
                  have HO_6 := n1_
                  have HO_8 := n2_
                  have HB := n3_
                  clear n0_ n1_ n2_ n3_
                  have p152 : 0 ≤ (((rd_T40 t142 x9_2).f1) : Int) := of_decide_eq_true (by first | (with_reducible assumption) | assumption)
                  have q152 : ((rd_T40 t142 x9_2).f1) < (x6_2.length : Int) := of_decide_eq_true (by first | (with_reducible assumption) | assumption)
                  obtain ⟨ad152, e152, hx152_0⟩ := Kd.at_int (Kd.R_reads' HO_6.out).2.2 ((rd_T40 t142 x9_2).f1) p152 q152
                  obtain rfl : ad151 = ad152 := (by injection e152)
                  replace p152 := eq_true p152
                  replace q152 := eq_true q152
                  have p153 : 0 ≤ (x9_2 : Int) := of_decide_eq_true (by first | (with_reducible assumption) | assumption)
                  have q153 : x9_2 < (t142.length : Int) := of_decide_eq_true (by first | (with_reducible assumption) | assumption)
                  obtain ⟨ad153, e153, hx153_0, hx153_1, hx153_2⟩ := at_T40 (Kd.V_reads' HO_5.out).2.2 x9_2 p153 q153
                  obtain rfl : ad148 = ad153 := (by injection e153)
                  replace p153 := eq_true p153
                  replace q153 := eq_true q153
                  have p24 : 0 ≤ (((rd_T40 t142 x9_2).f1) : Int) := of_decide_eq_true (by first | (with_reducible assumption) | assumption)
                  have q24 : (((rd_T40 t142 x9_2).f1) : Int) < ((x6_2.length : Int) : Int) := of_decide_eq_true (by first | (with_reducible assumption) | assumption)
                  obtain ⟨go24, co24, eo24, gb24, gl24, cl24, HG24⟩ := Kd.R_form HO_6.out (by omega)
                  (first | cases eo24 | (injection eo24 with ea_ en_ ec_; (first | subst ea_ | (injection ea_ with ea_; subst ea_)); subst ec_; clear en_))
                  have GB24 := Aside0.mk gb24
                  have GG24 := Aside0.mk HG24
                  clear gb24 gl24 HG24
                  (first | simp only [add_plain] at hx151_0 | skip)
                  (first | simp only [add_plain] at hx152_0 | skip)
                  obtain ⟨hx24_0, hf24_0⟩ := Kd.R_celln 0 HO_6.out (((rd_T40 t142 x9_2).f1) : Int) p24 q24
                  replace p24 := eq_true p24
                  replace q24 := eq_true q24
                  have HP32 := Kd.R_putn HO_6.out (((rd_T40 t142 x9_2).f1) : Int) (wrap64 ((rd x6_2 ((rd_T40 t142 x9_2).f1)) + ((rd_T40 t142 x9_2).f2)))
                  rw [← Ny154.out] at HP32
                  have HQ32 := Aside0.mk HP32
                  clear HP32
                  refine start_ (n := 14) (S := fun w' => w'.cell? ⟨go24, (((rd_T40 t142 x9_2).f1)).toNat, none⟩ = some (.int .i64 (rd x6_2 ((rd_T40 t142 x9_2).f1))) ∧ w'.cell? (ad148.add ((x9_2).toNat * 3)) = some (.int .i64 ((rd_T40 t142 x9_2).f0)) ∧ w'.cell? ⟨(ad148.add ((x9_2).toNat * 3)).block, (ad148.add ((x9_2).toNat * 3)).off + 1, none⟩ = some (.int .i64 ((rd_T40 t142 x9_2).f1)) ∧ w'.cell? ⟨(ad148.add ((x9_2).toNat * 3)).block, (ad148.add ((x9_2).toNat * 3)).off + 2, none⟩ = some (.int .i64 ((rd_T40 t142 x9_2).f2))) (ds := [13]) #[false, false, false, false, false, false, false, false, false, false, false, false, false, false] (by kernel_rfl) rfl rfl ⟨hx152_0, hx153_0, hx153_1, hx153_2⟩ (fun hHeld => ?_); refine with_tabW barrowref01_sweep.tab13 barrowref01_sweep.bits13 (fun HT_ HW_ => ?_)
                  generalize wc.drew = w31 at HO_5 HO_6 HO_8 HB GG24 HQ32 hf24_0 hx151_0 hx152_0 hx153_0 hx153_1 hx153_2 hx24_0 hHeld ⊢
                  refine pure_ (i := 0) (N := some 55) (v := ?_) (a' := ?_) #[true, false, false, false, false, false, false, false, false, false, false, false, false, false] rfl rfl (any_of HT_.out (by kernel_rfl)) (fun _ _ _ h => h) (Or.inl ⟨by rfl, ?_⟩) ?_ ?_
                  rotate_left
                  ·intro w'
                   go_simp
                   with_reducible rfl
                  rotate_left
                  ·simp only [Act.put, List.setIfInBounds_toArray, List.set_cons_zero, List.set_cons_succ, i64_w, i32_w]
                   rfl
                  refine pure_ (i := 1) (N := some 56) (v := ?_) (a' := ?_) #[true, true, false, false, false, false, false, false, false, false, false, false, false, false] rfl rfl (any_of HT_.out (by kernel_rfl)) (fun _ _ _ h => h) (Or.inl ⟨by rfl, ?_⟩) ?_ ?_
                  rotate_left
                  ·intro w'
                   go_simp
                   with_reducible rfl
                  rotate_left
                  ·simp only [Act.put, List.setIfInBounds_toArray, List.set_cons_zero, List.set_cons_succ, i64_w, i32_w]
                   rfl
                  refine pure_ (i := 2) (N := some 57) (v := ?_) (a' := ?_) #[true, true, true, false, false, false, false, false, false, false, false, false, false, false] rfl rfl (any_of HT_.out (by kernel_rfl)) (fun _ _ _ h => h) (Or.inl ⟨by rfl, ?_⟩) ?_ ?_
                  rotate_left
                  ·intro w'
                   go_simp
                   with_reducible rfl
                  rotate_left
                  ·simp only [Act.put, List.setIfInBounds_toArray, List.set_cons_zero, List.set_cons_succ, i64_w, i32_w]
                   rfl
                  refine pure_ (i := 3) (N := some 58) (v := ?_) (a' := ?_) #[true, true, true, true, false, false, false, false, false, false, false, false, false, false] rfl rfl (any_of HT_.out (by kernel_rfl)) (fun _ _ _ h => h) (Or.inl ⟨by rfl, ?_⟩) ?_ ?_
                  rotate_left
                  ·intro w'
                   go_simp
                   with_reducible rfl
                  rotate_left
                  ·simp only [Act.put, List.setIfInBounds_toArray, List.set_cons_zero, List.set_cons_succ, i64_w, i32_w]
                   rfl
                  refine pure_ (i := 4) (N := some 59) (v := ?_) (a' := ?_) #[true, true, true, true, true, false, false, false, false, false, false, false, false, false] rfl rfl (any_of HT_.out (by kernel_rfl)) (fun _ _ _ h => h) (Or.inl ⟨by rfl, ?_⟩) ?_ ?_
                  rotate_left
                  ·intro w'
                   go_simp
                   with_reducible rfl
                  rotate_left
                  ·simp only [Act.put, List.setIfInBounds_toArray, List.set_cons_zero, List.set_cons_succ, i64_w, i32_w]
                   rfl
                  refine pure_ (i := 6) (N := some 61) (v := ?_) (a' := ?_) #[true, true, true, true, true, false, true, false, false, false, false, false, false, false] rfl rfl (any_of HT_.out (by kernel_rfl)) (fun _ _ _ h => h) (Or.inl ⟨by rfl, ?_⟩) ?_ ?_
                  rotate_left
                  ·intro w'
                   go_simp
                   with_reducible rfl
                  rotate_left
                  ·simp only [Act.put, List.setIfInBounds_toArray, List.set_cons_zero, List.set_cons_succ, i64_w, i32_w]
                   rfl
                  refine pure_ (i := 7) (N := some 62) (v := ?_) (a' := ?_) #[true, true, true, true, true, false, true, true, false, false, false, false, false, false] rfl rfl (any_of HT_.out (by kernel_rfl)) (fun _ _ _ h => h) (Or.inl ⟨by rfl, ?_⟩) ?_ ?_
                  rotate_left
                  ·intro w'
                   go_simp
                   with_reducible rfl
                  rotate_left
                  ·simp only [Act.put, List.setIfInBounds_toArray, List.set_cons_zero, List.set_cons_succ, i64_w, i32_w]
                   rfl
                  refine pure_ (i := 8) (N := some 63) (v := ?_) (a' := ?_) #[true, true, true, true, true, false, true, true, true, false, false, false, false, false] rfl rfl (any_of HT_.out (by kernel_rfl)) (fun _ _ _ h => h) (Or.inl ⟨by rfl, ?_⟩) ?_ ?_
                  rotate_left
                  ·intro w'
                   go_simp
                   with_reducible rfl
                  rotate_left
                  ·simp only [Act.put, List.setIfInBounds_toArray, List.set_cons_zero, List.set_cons_succ, i64_w, i32_w]
                   rfl
                  refine pure_ (i := 9) (N := some 64) (v := ?_) (a' := ?_) #[true, true, true, true, true, false, true, true, true, true, false, false, false, false] rfl rfl (any_of HT_.out (by kernel_rfl)) (fun _ _ _ h => h) (Or.inl ⟨by rfl, ?_⟩) ?_ ?_
                  rotate_left
                  ·intro w'
                   go_simp
                   with_reducible rfl
                  rotate_left
                  ·simp only [Act.put, List.setIfInBounds_toArray, List.set_cons_zero, List.set_cons_succ, i64_w, i32_w]
                   rfl
                  refine take_ (i := 5) (N := some 60) (v := ?_) (a' := ?_) #[true, true, true, true, true, true, true, true, true, true, false, false, false, false] rfl rfl (take_ofW HT_.out HW_.out (by kernel_rfl)) (fun _ _ _ h => h) (Or.inl ⟨by rfl, ?_⟩) hHeld ?_ ?_
                  rotate_left
                  ·rintro w' ⟨s0, s1, s2, s3⟩
                   go_simp
                   with_reducible rfl
                  rotate_left
                  ·simp only [Act.put, List.setIfInBounds_toArray, List.set_cons_zero, List.set_cons_succ, i64_w, i32_w]
                   rfl
                  refine take_ (i := 10) (N := some 65) (v := ?_) (a' := ?_) #[true, true, true, true, true, true, true, true, true, true, true, false, false, false] rfl rfl (take_ofW HT_.out HW_.out (by kernel_rfl)) (fun _ _ _ h => h) (Or.inl ⟨by rfl, ?_⟩) hHeld ?_ ?_
                  rotate_left
                  ·rintro w' ⟨s0, s1, s2, s3⟩
                   go_simp
                   with_reducible rfl
                  rotate_left
                  ·simp only [Act.put, List.setIfInBounds_toArray, List.set_cons_zero, List.set_cons_succ, i64_w, i32_w]
                   rfl
                  refine pure_ (i := 11) (N := some 66) (v := ?_) (a' := ?_) #[true, true, true, true, true, true, true, true, true, true, true, true, false, false] rfl rfl (any_of HT_.out (by kernel_rfl)) (fun _ _ _ h => h) (Or.inl ⟨by rfl, ?_⟩) ?_ ?_
                  rotate_left
                  ·intro w'
                   go_simp
                   with_reducible rfl
                  rotate_left
                  ·simp only [Act.put, List.setIfInBounds_toArray, List.set_cons_zero, List.set_cons_succ, i64_w, i32_w]
                   rfl
                  refine pure_ (i := 12) (N := some 67) (v := ?_) (a' := ?_) #[true, true, true, true, true, true, true, true, true, true, true, true, true, false] rfl rfl (any_of HT_.out (by kernel_rfl)) (fun _ _ _ h => h) (Or.inl ⟨by rfl, ?_⟩) ?_ ?_
                  rotate_left
                  ·intro w'
                   go_simp
                   with_reducible rfl
                  rotate_left
                  ·simp only [Act.put, List.setIfInBounds_toArray, List.set_cons_zero, List.set_cons_succ, i64_w, i32_w]
                   rfl
                  refine last_ (i := 13) (N := none) #[true, true, true, true, true, true, true, true, true, true, true, true, true, true] rfl rfl (one_of HT_.out (by kernel_rfl)) (by decide) (fun K hK => ?_)
                  refine skip_ (w1 := ?_) (by rfl) rfl ?_ ?_
                  rotate_left
                  ·go_simp
                   rfl
                  refine hK.out _ _ ?_
                  clear hK K
                  refine done_ (done_of HT_.out (by kernel_rfl)) ?_
                  have p25 : 0 ≤ (((rd_T40 t142 x9_2).f1) : Int) := of_decide_eq_true (by first | (with_reducible assumption) | assumption)
                  have q25 : (((rd_T40 t142 x9_2).f1) : Int) < ((x6_2.length : Int) : Int) := of_decide_eq_true (by first | (with_reducible assumption) | assumption)
                  replace p25 := eq_true p25
                  replace q25 := eq_true q25
                  try go_wp2
                  go_roundg kj14
                  case measure => have := HK1.out; have := HK2.out; have := HJ14.out; omega
                  case rel => exact ⟨(y154), (wrap64 (x7_2 - 1)), (wrap64 (x9_2 + 1)), (by first | rfl | (simp; done) | (simp [*]; done)), (by first | rfl | (simp; done) | (simp [*]; done)), H', ⟨by have := HK1.out; have := HK2.out; have := HJ14.out; omega⟩, ⟨by (with_reducible repeat (first | apply Kd.V_alloc | apply Kd.V_drewN | apply Kd.V_drew)); exact Kd.V_mono (Kd.V_far (p := ⟨go24, (((rd_T40 t142 x9_2).f1) : Int).toNat, none⟩) (Kd.V_mono HO_5.out (fun k_ hk => (⟨hk, fun e_ => hk.1 (by rw [e_]; rfl)⟩ : _ ∧ k_ ≠ go24))) (fun _ hk => hk.2) (.int .i64 (wrap64 ((rd x6_2 ((rd_T40 t142 x9_2).f1)) + ((rd_T40 t142 x9_2).f2))))) (fun _ hk => ⟨hk.1.1, hk.1.2⟩)⟩, ⟨by (with_reducible repeat (first | apply Kd.R_alloc | apply Kd.R_drewN | apply Kd.R_drew)); exact HQ32.out⟩, ⟨by (with_reducible repeat (first | apply Kd.R_alloc | apply Kd.R_drewN | apply Kd.R_drew)); exact Kd.R_mono (Kd.R_far (p := ⟨go24, (((rd_T40 t142 x9_2).f1) : Int).toNat, none⟩) (Kd.R_types HO_8.out GG24.out (by decide)) (fun _ hk => hk.2) (.int .i64 (wrap64 ((rd x6_2 ((rd_T40 t142 x9_2).f1)) + ((rd_T40 t142 x9_2).f2))))) (fun _ hk => trivial)⟩, ⟨by repeat (first | (with_reducible first | exact HB.out | apply below_alloc | apply pw_below_drewN | apply below_drew1 | refine below_set ?_ GB24.out) | exact HB.out)⟩⟩
                ·rw [if_neg c23] at H
                 have c23b0 : decide (0 < (rd x6_2 ((rd_T40 t142 x9_2).f1))) = false := decide_eq_false c23
                 clear c23
                 obtain ⟨y158, hy158⟩ : ∃ y_ : List Int, y_ = (x6_2.set (((rd_T40 t142 x9_2).f1) : Int).toNat (wrap64 ((rd x6_2 ((rd_T40 t142 x9_2).f1)) + ((rd_T40 t142 x9_2).f2)))) := ⟨_, rfl⟩
                 replace H : (if (wrap64 ((rd x6_2 ((rd_T40 t142 x9_2).f1)) + ((rd_T40 t142 x9_2).f2))) > 0 then (barrowref01_sweep.l1 kj14 l0 a1 t142 y158 (wrap64 (x7_2 + 1)) x8_1 (wrap64 (x9_2 + 1)) ((rd_T40 t142 x9_1).f0)) else (barrowref01_sweep.l1 kj14 l0 a1 t142 y158 x7_2 x8_1 (wrap64 (x9_2 + 1)) ((rd_T40 t142 x9_1).f0))) = some r := by first | (rw [hy158]; with_reducible exact H) | (have H2_ := (Option.bind_some _ _).symm.trans H; rw [hy158]; with_reducible exact H2_) | (have H2_ := (Option.bind_some _ _).symm.trans H; with_reducible exact H2_) | with_reducible exact H | (rw [hy158]; exact H) | exact H
                 have Ny158 := Aside0.mk hy158
                 clear hy158
                 by_cases c35 : (wrap64 ((rd x6_2 ((rd_T40 t142 x9_2).f1)) + ((rd_T40 t142 x9_2).f2))) > 0
                 ·rw [if_pos c35] at H
                  have c35b0 : decide (0 < (wrap64 ((rd x6_2 ((rd_T40 t142 x9_2).f1)) + ((rd_T40 t142 x9_2).f2)))) = true := decide_eq_true c35
                  clear c35
                  have H' := Aside0.mk H
                  clear H
                  have p150 : 0 ≤ (x9_2 : Int) := of_decide_eq_true (by first | (with_reducible assumption) | assumption)
                  have q150 : x9_2 < (t142.length : Int) := of_decide_eq_true (by first | (with_reducible assumption) | assumption)
                  obtain ⟨ad150, e150, hx150_0, hx150_1, hx150_2⟩ := at_T40 (Kd.V_reads' HO_5.out).2.2 x9_2 p150 q150
                  obtain rfl : ad148 = ad150 := (by injection e150)
                  replace p150 := eq_true p150
                  replace q150 := eq_true q150
                  obtain ⟨Ao36, co36, eo36⟩ := Kd.R_slice HO_6.out
                  subst eo36
                  have p151 : 0 ≤ (((rd_T40 t142 x9_2).f1) : Int) := of_decide_eq_true (by first | (with_reducible assumption) | assumption)
                  have q151 : ((rd_T40 t142 x9_2).f1) < (x6_2.length : Int) := of_decide_eq_true (by first | (with_reducible assumption) | assumption)
                  obtain ⟨ad151, e151, hx151_0⟩ := Kd.at_int (Kd.R_reads' HO_6.out).2.2 ((rd_T40 t142 x9_2).f1) p151 q151
                  cases e151
                  replace p151 := eq_true p151
                  replace q151 := eq_true q151
                  try go_wp2
                  have n0_ := Aside0.mk (Kd.V_drew HO_5.out)
                  have n1_ := Aside0.mk (Kd.R_drew HO_6.out)
                  have n2_ := Aside0.mk (Kd.R_drew HO_8.out)
                  have n3_ := Aside0.mk (below_drew1 HB.out)
                  clear HO_5
                  clear HO_6
                  clear HO_8
                  clear HB
                  have HO_5 := n0_
                  have HO_6 := n1_
                  have HO_8 := n2_
                  have HB := n3_
                  clear n0_ n1_ n2_ n3_
                  have p156 : 0 ≤ (((rd_T40 t142 x9_2).f1) : Int) := of_decide_eq_true (by first | (with_reducible assumption) | assumption)
                  have q156 : ((rd_T40 t142 x9_2).f1) < (x6_2.length : Int) := of_decide_eq_true (by first | (with_reducible assumption) | assumption)
                  obtain ⟨ad156, e156, hx156_0⟩ := Kd.at_int (Kd.R_reads' HO_6.out).2.2 ((rd_T40 t142 x9_2).f1) p156 q156
                  obtain rfl : ad151 = ad156 := (by injection e156)
                  replace p156 := eq_true p156
                  replace q156 := eq_true q156
                  have p157 : 0 ≤ (x9_2 : Int) := of_decide_eq_true (by first | (with_reducible assumption) | assumption)
                  have q157 : x9_2 < (t142.length : Int) := of_decide_eq_true (by first | (with_reducible assumption) | assumption)
                  obtain ⟨ad157, e157, hx157_0, hx157_1, hx157_2⟩ := at_T40 (Kd.V_reads' HO_5.out).2.2 x9_2 p157 q157
                  obtain rfl : ad148 = ad157 := (by injection e157)
                  replace p157 := eq_true p157
                  replace q157 := eq_true q157
                  have p33 : 0 ≤ (((rd_T40 t142 x9_2).f1) : Int) := of_decide_eq_true (by first | (with_reducible assumption) | assumption)
                  have q33 : (((rd_T40 t142 x9_2).f1) : Int) < ((x6_2.length : Int) : Int) := of_decide_eq_true (by first | (with_reducible assumption) | assumption)
                  obtain ⟨go33, co33, eo33, gb33, gl33, cl33, HG33⟩ := Kd.R_form HO_6.out (by omega)
                  (first | cases eo33 | (injection eo33 with ea_ en_ ec_; (first | subst ea_ | (injection ea_ with ea_; subst ea_)); subst ec_; clear en_))
                  have GB33 := Aside0.mk gb33
                  have GG33 := Aside0.mk HG33
                  clear gb33 gl33 HG33
                  (first | simp only [add_plain] at hx151_0 | skip)
                  (first | simp only [add_plain] at hx156_0 | skip)
                  obtain ⟨hx33_0, hf33_0⟩ := Kd.R_celln 0 HO_6.out (((rd_T40 t142 x9_2).f1) : Int) p33 q33
                  replace p33 := eq_true p33
                  replace q33 := eq_true q33
                  have HP38 := Kd.R_putn HO_6.out (((rd_T40 t142 x9_2).f1) : Int) (wrap64 ((rd x6_2 ((rd_T40 t142 x9_2).f1)) + ((rd_T40 t142 x9_2).f2)))
                  rw [← Ny158.out] at HP38
                  have HQ38 := Aside0.mk HP38
                  clear HP38
                  refine start_ (n := 14) (S := fun w' => w'.cell? ⟨go33, (((rd_T40 t142 x9_2).f1)).toNat, none⟩ = some (.int .i64 (rd x6_2 ((rd_T40 t142 x9_2).f1))) ∧ w'.cell? (ad148.add ((x9_2).toNat * 3)) = some (.int .i64 ((rd_T40 t142 x9_2).f0)) ∧ w'.cell? ⟨(ad148.add ((x9_2).toNat * 3)).block, (ad148.add ((x9_2).toNat * 3)).off + 1, none⟩ = some (.int .i64 ((rd_T40 t142 x9_2).f1)) ∧ w'.cell? ⟨(ad148.add ((x9_2).toNat * 3)).block, (ad148.add ((x9_2).toNat * 3)).off + 2, none⟩ = some (.int .i64 ((rd_T40 t142 x9_2).f2))) (ds := [13]) #[false, false, false, false, false, false, false, false, false, false, false, false, false, false] (by kernel_rfl) rfl rfl ⟨hx156_0, hx157_0, hx157_1, hx157_2⟩ (fun hHeld => ?_); refine with_tabW barrowref01_sweep.tab13 barrowref01_sweep.bits13 (fun HT_ HW_ => ?_)
                  generalize wc.drew = w37 at HO_5 HO_6 HO_8 HB GG33 HQ38 hf33_0 hx151_0 hx156_0 hx157_0 hx157_1 hx157_2 hx33_0 hHeld ⊢
                  refine pure_ (i := 0) (N := some 55) (v := ?_) (a' := ?_) #[true, false, false, false, false, false, false, false, false, false, false, false, false, false] rfl rfl (any_of HT_.out (by kernel_rfl)) (fun _ _ _ h => h) (Or.inl ⟨by rfl, ?_⟩) ?_ ?_
                  rotate_left
                  ·intro w'
                   go_simp
                   with_reducible rfl
                  rotate_left
                  ·simp only [Act.put, List.setIfInBounds_toArray, List.set_cons_zero, List.set_cons_succ, i64_w, i32_w]
                   rfl
                  refine pure_ (i := 1) (N := some 56) (v := ?_) (a' := ?_) #[true, true, false, false, false, false, false, false, false, false, false, false, false, false] rfl rfl (any_of HT_.out (by kernel_rfl)) (fun _ _ _ h => h) (Or.inl ⟨by rfl, ?_⟩) ?_ ?_
                  rotate_left
                  ·intro w'
                   go_simp
                   with_reducible rfl
                  rotate_left
                  ·simp only [Act.put, List.setIfInBounds_toArray, List.set_cons_zero, List.set_cons_succ, i64_w, i32_w]
                   rfl
                  refine pure_ (i := 2) (N := some 57) (v := ?_) (a' := ?_) #[true, true, true, false, false, false, false, false, false, false, false, false, false, false] rfl rfl (any_of HT_.out (by kernel_rfl)) (fun _ _ _ h => h) (Or.inl ⟨by rfl, ?_⟩) ?_ ?_
                  rotate_left
                  ·intro w'
                   go_simp
                   with_reducible rfl
                  rotate_left
                  ·simp only [Act.put, List.setIfInBounds_toArray, List.set_cons_zero, List.set_cons_succ, i64_w, i32_w]
                   rfl
                  refine pure_ (i := 3) (N := some 58) (v := ?_) (a' := ?_) #[true, true, true, true, false, false, false, false, false, false, false, false, false, false] rfl rfl (any_of HT_.out (by kernel_rfl)) (fun _ _ _ h => h) (Or.inl ⟨by rfl, ?_⟩) ?_ ?_
                  rotate_left
                  ·intro w'
                   go_simp
                   with_reducible rfl
                  rotate_left
                  ·simp only [Act.put, List.setIfInBounds_toArray, List.set_cons_zero, List.set_cons_succ, i64_w, i32_w]
                   rfl
                  refine pure_ (i := 4) (N := some 59) (v := ?_) (a' := ?_) #[true, true, true, true, true, false, false, false, false, false, false, false, false, false] rfl rfl (any_of HT_.out (by kernel_rfl)) (fun _ _ _ h => h) (Or.inl ⟨by rfl, ?_⟩) ?_ ?_
                  rotate_left
                  ·intro w'
                   go_simp
                   with_reducible rfl
                  rotate_left
                  ·simp only [Act.put, List.setIfInBounds_toArray, List.set_cons_zero, List.set_cons_succ, i64_w, i32_w]
                   rfl
                  refine pure_ (i := 6) (N := some 61) (v := ?_) (a' := ?_) #[true, true, true, true, true, false, true, false, false, false, false, false, false, false] rfl rfl (any_of HT_.out (by kernel_rfl)) (fun _ _ _ h => h) (Or.inl ⟨by rfl, ?_⟩) ?_ ?_
                  rotate_left
                  ·intro w'
                   go_simp
                   with_reducible rfl
                  rotate_left
                  ·simp only [Act.put, List.setIfInBounds_toArray, List.set_cons_zero, List.set_cons_succ, i64_w, i32_w]
                   rfl
                  refine pure_ (i := 7) (N := some 62) (v := ?_) (a' := ?_) #[true, true, true, true, true, false, true, true, false, false, false, false, false, false] rfl rfl (any_of HT_.out (by kernel_rfl)) (fun _ _ _ h => h) (Or.inl ⟨by rfl, ?_⟩) ?_ ?_
                  rotate_left
                  ·intro w'
                   go_simp
                   with_reducible rfl
                  rotate_left
                  ·simp only [Act.put, List.setIfInBounds_toArray, List.set_cons_zero, List.set_cons_succ, i64_w, i32_w]
                   rfl
                  refine pure_ (i := 8) (N := some 63) (v := ?_) (a' := ?_) #[true, true, true, true, true, false, true, true, true, false, false, false, false, false] rfl rfl (any_of HT_.out (by kernel_rfl)) (fun _ _ _ h => h) (Or.inl ⟨by rfl, ?_⟩) ?_ ?_
                  rotate_left
                  ·intro w'
                   go_simp
                   with_reducible rfl
                  rotate_left
                  ·simp only [Act.put, List.setIfInBounds_toArray, List.set_cons_zero, List.set_cons_succ, i64_w, i32_w]
                   rfl
                  refine pure_ (i := 9) (N := some 64) (v := ?_) (a' := ?_) #[true, true, true, true, true, false, true, true, true, true, false, false, false, false] rfl rfl (any_of HT_.out (by kernel_rfl)) (fun _ _ _ h => h) (Or.inl ⟨by rfl, ?_⟩) ?_ ?_
                  rotate_left
                  ·intro w'
                   go_simp
                   with_reducible rfl
                  rotate_left
                  ·simp only [Act.put, List.setIfInBounds_toArray, List.set_cons_zero, List.set_cons_succ, i64_w, i32_w]
                   rfl
                  refine take_ (i := 5) (N := some 60) (v := ?_) (a' := ?_) #[true, true, true, true, true, true, true, true, true, true, false, false, false, false] rfl rfl (take_ofW HT_.out HW_.out (by kernel_rfl)) (fun _ _ _ h => h) (Or.inl ⟨by rfl, ?_⟩) hHeld ?_ ?_
                  rotate_left
                  ·rintro w' ⟨s0, s1, s2, s3⟩
                   go_simp
                   with_reducible rfl
                  rotate_left
                  ·simp only [Act.put, List.setIfInBounds_toArray, List.set_cons_zero, List.set_cons_succ, i64_w, i32_w]
                   rfl
                  refine take_ (i := 10) (N := some 65) (v := ?_) (a' := ?_) #[true, true, true, true, true, true, true, true, true, true, true, false, false, false] rfl rfl (take_ofW HT_.out HW_.out (by kernel_rfl)) (fun _ _ _ h => h) (Or.inl ⟨by rfl, ?_⟩) hHeld ?_ ?_
                  rotate_left
                  ·rintro w' ⟨s0, s1, s2, s3⟩
                   go_simp
                   with_reducible rfl
                  rotate_left
                  ·simp only [Act.put, List.setIfInBounds_toArray, List.set_cons_zero, List.set_cons_succ, i64_w, i32_w]
                   rfl
                  refine pure_ (i := 11) (N := some 66) (v := ?_) (a' := ?_) #[true, true, true, true, true, true, true, true, true, true, true, true, false, false] rfl rfl (any_of HT_.out (by kernel_rfl)) (fun _ _ _ h => h) (Or.inl ⟨by rfl, ?_⟩) ?_ ?_
                  rotate_left
                  ·intro w'
                   go_simp
                   with_reducible rfl
                  rotate_left
                  ·simp only [Act.put, List.setIfInBounds_toArray, List.set_cons_zero, List.set_cons_succ, i64_w, i32_w]
                   rfl
                  refine pure_ (i := 12) (N := some 67) (v := ?_) (a' := ?_) #[true, true, true, true, true, true, true, true, true, true, true, true, true, false] rfl rfl (any_of HT_.out (by kernel_rfl)) (fun _ _ _ h => h) (Or.inl ⟨by rfl, ?_⟩) ?_ ?_
                  rotate_left
                  ·intro w'
                   go_simp
                   with_reducible rfl
                  rotate_left
                  ·simp only [Act.put, List.setIfInBounds_toArray, List.set_cons_zero, List.set_cons_succ, i64_w, i32_w]
                   rfl
                  refine last_ (i := 13) (N := none) #[true, true, true, true, true, true, true, true, true, true, true, true, true, true] rfl rfl (one_of HT_.out (by kernel_rfl)) (by decide) (fun K hK => ?_)
                  refine skip_ (w1 := ?_) (by rfl) rfl ?_ ?_
                  rotate_left
                  ·go_simp
                   rfl
                  refine hK.out _ _ ?_
                  clear hK K
                  refine done_ (done_of HT_.out (by kernel_rfl)) ?_
                  have p34 : 0 ≤ (((rd_T40 t142 x9_2).f1) : Int) := of_decide_eq_true (by first | (with_reducible assumption) | assumption)
                  have q34 : (((rd_T40 t142 x9_2).f1) : Int) < ((x6_2.length : Int) : Int) := of_decide_eq_true (by first | (with_reducible assumption) | assumption)
                  replace p34 := eq_true p34
                  replace q34 := eq_true q34
                  try go_wp2
                  go_roundg kj14
                  case measure => have := HK1.out; have := HK2.out; have := HJ14.out; omega
                  case rel => exact ⟨(y158), (wrap64 (x7_2 + 1)), (wrap64 (x9_2 + 1)), (by first | rfl | (simp; done) | (simp [*]; done)), (by first | rfl | (simp; done) | (simp [*]; done)), H', ⟨by have := HK1.out; have := HK2.out; have := HJ14.out; omega⟩, ⟨by (with_reducible repeat (first | apply Kd.V_alloc | apply Kd.V_drewN | apply Kd.V_drew)); exact Kd.V_mono (Kd.V_far (p := ⟨go33, (((rd_T40 t142 x9_2).f1) : Int).toNat, none⟩) (Kd.V_mono HO_5.out (fun k_ hk => (⟨hk, fun e_ => hk.1 (by rw [e_]; rfl)⟩ : _ ∧ k_ ≠ go33))) (fun _ hk => hk.2) (.int .i64 (wrap64 ((rd x6_2 ((rd_T40 t142 x9_2).f1)) + ((rd_T40 t142 x9_2).f2))))) (fun _ hk => ⟨hk.1.1, hk.1.2⟩)⟩, ⟨by (with_reducible repeat (first | apply Kd.R_alloc | apply Kd.R_drewN | apply Kd.R_drew)); exact HQ38.out⟩, ⟨by (with_reducible repeat (first | apply Kd.R_alloc | apply Kd.R_drewN | apply Kd.R_drew)); exact Kd.R_mono (Kd.R_far (p := ⟨go33, (((rd_T40 t142 x9_2).f1) : Int).toNat, none⟩) (Kd.R_types HO_8.out GG33.out (by decide)) (fun _ hk => hk.2) (.int .i64 (wrap64 ((rd x6_2 ((rd_T40 t142 x9_2).f1)) + ((rd_T40 t142 x9_2).f2))))) (fun _ hk => trivial)⟩, ⟨by repeat (first | (with_reducible first | exact HB.out | apply below_alloc | apply pw_below_drewN | apply below_drew1 | refine below_set ?_ GB33.out) | exact HB.out)⟩⟩
                 ·rw [if_neg c35] at H
                  have c35b0 : decide (0 < (wrap64 ((rd x6_2 ((rd_T40 t142 x9_2).f1)) + ((rd_T40 t142 x9_2).f2)))) = false := decide_eq_false c35
                  clear c35
                  have H' := Aside0.mk H
                  clear H
                  have p150 : 0 ≤ (x9_2 : Int) := of_decide_eq_true (by first | (with_reducible assumption) | assumption)
                  have q150 : x9_2 < (t142.length : Int) := of_decide_eq_true (by first | (with_reducible assumption) | assumption)
                  obtain ⟨ad150, e150, hx150_0, hx150_1, hx150_2⟩ := at_T40 (Kd.V_reads' HO_5.out).2.2 x9_2 p150 q150
                  obtain rfl : ad148 = ad150 := (by injection e150)
                  replace p150 := eq_true p150
                  replace q150 := eq_true q150
                  obtain ⟨Ao39, co39, eo39⟩ := Kd.R_slice HO_6.out
                  subst eo39
                  have p151 : 0 ≤ (((rd_T40 t142 x9_2).f1) : Int) := of_decide_eq_true (by first | (with_reducible assumption) | assumption)
                  have q151 : ((rd_T40 t142 x9_2).f1) < (x6_2.length : Int) := of_decide_eq_true (by first | (with_reducible assumption) | assumption)
                  obtain ⟨ad151, e151, hx151_0⟩ := Kd.at_int (Kd.R_reads' HO_6.out).2.2 ((rd_T40 t142 x9_2).f1) p151 q151
                  cases e151
                  replace p151 := eq_true p151
                  replace q151 := eq_true q151
                  try go_wp2
                  have n0_ := Aside0.mk (Kd.V_drew HO_5.out)
                  have n1_ := Aside0.mk (Kd.R_drew HO_6.out)
                  have n2_ := Aside0.mk (Kd.R_drew HO_8.out)
                  have n3_ := Aside0.mk (below_drew1 HB.out)
                  clear HO_5
                  clear HO_6
                  clear HO_8
                  clear HB
                  have HO_5 := n0_
                  have HO_6 := n1_
                  have HO_8 := n2_
                  have HB := n3_
                  clear n0_ n1_ n2_ n3_
                  have p156 : 0 ≤ (((rd_T40 t142 x9_2).f1) : Int) := of_decide_eq_true (by first | (with_reducible assumption) | assumption)
                  have q156 : ((rd_T40 t142 x9_2).f1) < (x6_2.length : Int) := of_decide_eq_true (by first | (with_reducible assumption) | assumption)
                  obtain ⟨ad156, e156, hx156_0⟩ := Kd.at_int (Kd.R_reads' HO_6.out).2.2 ((rd_T40 t142 x9_2).f1) p156 q156
                  obtain rfl : ad151 = ad156 := (by injection e156)
                  replace p156 := eq_true p156
                  replace q156 := eq_true q156
                  have p157 : 0 ≤ (x9_2 : Int) := of_decide_eq_true (by first | (with_reducible assumption) | assumption)
                  have q157 : x9_2 < (t142.length : Int) := of_decide_eq_true (by first | (with_reducible assumption) | assumption)
                  obtain ⟨ad157, e157, hx157_0, hx157_1, hx157_2⟩ := at_T40 (Kd.V_reads' HO_5.out).2.2 x9_2 p157 q157
                  obtain rfl : ad148 = ad157 := (by injection e157)
                  replace p157 := eq_true p157
                  replace q157 := eq_true q157
                  have p33 : 0 ≤ (((rd_T40 t142 x9_2).f1) : Int) := of_decide_eq_true (by first | (with_reducible assumption) | assumption)
                  have q33 : (((rd_T40 t142 x9_2).f1) : Int) < ((x6_2.length : Int) : Int) := of_decide_eq_true (by first | (with_reducible assumption) | assumption)
                  obtain ⟨go33, co33, eo33, gb33, gl33, cl33, HG33⟩ := Kd.R_form HO_6.out (by omega)
                  (first | cases eo33 | (injection eo33 with ea_ en_ ec_; (first | subst ea_ | (injection ea_ with ea_; subst ea_)); subst ec_; clear en_))
                  have GB33 := Aside0.mk gb33
                  have GG33 := Aside0.mk HG33
                  clear gb33 gl33 HG33
                  (first | simp only [add_plain] at hx151_0 | skip)
                  (first | simp only [add_plain] at hx156_0 | skip)
                  obtain ⟨hx33_0, hf33_0⟩ := Kd.R_celln 0 HO_6.out (((rd_T40 t142 x9_2).f1) : Int) p33 q33
                  replace p33 := eq_true p33
                  replace q33 := eq_true q33
                  have HP41 := Kd.R_putn HO_6.out (((rd_T40 t142 x9_2).f1) : Int) (wrap64 ((rd x6_2 ((rd_T40 t142 x9_2).f1)) + ((rd_T40 t142 x9_2).f2)))
                  rw [← Ny158.out] at HP41
                  have HQ41 := Aside0.mk HP41
                  clear HP41
                  refine start_ (n := 14) (S := fun w' => w'.cell? ⟨go33, (((rd_T40 t142 x9_2).f1)).toNat, none⟩ = some (.int .i64 (rd x6_2 ((rd_T40 t142 x9_2).f1))) ∧ w'.cell? (ad148.add ((x9_2).toNat * 3)) = some (.int .i64 ((rd_T40 t142 x9_2).f0)) ∧ w'.cell? ⟨(ad148.add ((x9_2).toNat * 3)).block, (ad148.add ((x9_2).toNat * 3)).off + 1, none⟩ = some (.int .i64 ((rd_T40 t142 x9_2).f1)) ∧ w'.cell? ⟨(ad148.add ((x9_2).toNat * 3)).block, (ad148.add ((x9_2).toNat * 3)).off + 2, none⟩ = some (.int .i64 ((rd_T40 t142 x9_2).f2))) (ds := [13]) #[false, false, false, false, false, false, false, false, false, false, false, false, false, false] (by kernel_rfl) rfl rfl ⟨hx156_0, hx157_0, hx157_1, hx157_2⟩ (fun hHeld => ?_); refine with_tabW barrowref01_sweep.tab13 barrowref01_sweep.bits13 (fun HT_ HW_ => ?_)
                  generalize wc.drew = w40 at HO_5 HO_6 HO_8 HB GG33 HQ41 hf33_0 hx151_0 hx156_0 hx157_0 hx157_1 hx157_2 hx33_0 hHeld ⊢
                  refine pure_ (i := 0) (N := some 55) (v := ?_) (a' := ?_) #[true, false, false, false, false, false, false, false, false, false, false, false, false, false] rfl rfl (any_of HT_.out (by kernel_rfl)) (fun _ _ _ h => h) (Or.inl ⟨by rfl, ?_⟩) ?_ ?_
                  rotate_left
                  ·intro w'
                   go_simp
                   with_reducible rfl
                  rotate_left
                  ·simp only [Act.put, List.setIfInBounds_toArray, List.set_cons_zero, List.set_cons_succ, i64_w, i32_w]
                   rfl
                  refine pure_ (i := 1) (N := some 56) (v := ?_) (a' := ?_) #[true, true, false, false, false, false, false, false, false, false, false, false, false, false] rfl rfl (any_of HT_.out (by kernel_rfl)) (fun _ _ _ h => h) (Or.inl ⟨by rfl, ?_⟩) ?_ ?_
                  rotate_left
                  ·intro w'
                   go_simp
                   with_reducible rfl
                  rotate_left
                  ·simp only [Act.put, List.setIfInBounds_toArray, List.set_cons_zero, List.set_cons_succ, i64_w, i32_w]
                   rfl
                  refine pure_ (i := 2) (N := some 57) (v := ?_) (a' := ?_) #[true, true, true, false, false, false, false, false, false, false, false, false, false, false] rfl rfl (any_of HT_.out (by kernel_rfl)) (fun _ _ _ h => h) (Or.inl ⟨by rfl, ?_⟩) ?_ ?_
                  rotate_left
                  ·intro w'
                   go_simp
                   with_reducible rfl
                  rotate_left
                  ·simp only [Act.put, List.setIfInBounds_toArray, List.set_cons_zero, List.set_cons_succ, i64_w, i32_w]
                   rfl
                  refine pure_ (i := 3) (N := some 58) (v := ?_) (a' := ?_) #[true, true, true, true, false, false, false, false, false, false, false, false, false, false] rfl rfl (any_of HT_.out (by kernel_rfl)) (fun _ _ _ h => h) (Or.inl ⟨by rfl, ?_⟩) ?_ ?_
                  rotate_left
                  ·intro w'
                   go_simp
                   with_reducible rfl
                  rotate_left
                  ·simp only [Act.put, List.setIfInBounds_toArray, List.set_cons_zero, List.set_cons_succ, i64_w, i32_w]
                   rfl
                  refine pure_ (i := 4) (N := some 59) (v := ?_) (a' := ?_) #[true, true, true, true, true, false, false, false, false, false, false, false, false, false] rfl rfl (any_of HT_.out (by kernel_rfl)) (fun _ _ _ h => h) (Or.inl ⟨by rfl, ?_⟩) ?_ ?_
                  rotate_left
                  ·intro w'
                   go_simp
                   with_reducible rfl
                  rotate_left
                  ·simp only [Act.put, List.setIfInBounds_toArray, List.set_cons_zero, List.set_cons_succ, i64_w, i32_w]
                   rfl
                  refine pure_ (i := 6) (N := some 61) (v := ?_) (a' := ?_) #[true, true, true, true, true, false, true, false, false, false, false, false, false, false] rfl rfl (any_of HT_.out (by kernel_rfl)) (fun _ _ _ h => h) (Or.inl ⟨by rfl, ?_⟩) ?_ ?_
                  rotate_left
                  ·intro w'
                   go_simp
                   with_reducible rfl
                  rotate_left
                  ·simp only [Act.put, List.setIfInBounds_toArray, List.set_cons_zero, List.set_cons_succ, i64_w, i32_w]
                   rfl
                  refine pure_ (i := 7) (N := some 62) (v := ?_) (a' := ?_) #[true, true, true, true, true, false, true, true, false, false, false, false, false, false] rfl rfl (any_of HT_.out (by kernel_rfl)) (fun _ _ _ h => h) (Or.inl ⟨by rfl, ?_⟩) ?_ ?_
                  rotate_left
                  ·intro w'
                   go_simp
                   with_reducible rfl
                  rotate_left
                  ·simp only [Act.put, List.setIfInBounds_toArray, List.set_cons_zero, List.set_cons_succ, i64_w, i32_w]
                   rfl
                  refine pure_ (i := 8) (N := some 63) (v := ?_) (a' := ?_) #[true, true, true, true, true, false, true, true, true, false, false, false, false, false] rfl rfl (any_of HT_.out (by kernel_rfl)) (fun _ _ _ h => h) (Or.inl ⟨by rfl, ?_⟩) ?_ ?_
                  rotate_left
                  ·intro w'
                   go_simp
                   with_reducible rfl
                  rotate_left
                  ·simp only [Act.put, List.setIfInBounds_toArray, List.set_cons_zero, List.set_cons_succ, i64_w, i32_w]
                   rfl
                  refine pure_ (i := 9) (N := some 64) (v := ?_) (a' := ?_) #[true, true, true, true, true, false, true, true, true, true, false, false, false, false] rfl rfl (any_of HT_.out (by kernel_rfl)) (fun _ _ _ h => h) (Or.inl ⟨by rfl, ?_⟩) ?_ ?_
                  rotate_left
                  ·intro w'
                   go_simp
                   with_reducible rfl
                  rotate_left
                  ·simp only [Act.put, List.setIfInBounds_toArray, List.set_cons_zero, List.set_cons_succ, i64_w, i32_w]
                   rfl
                  refine take_ (i := 5) (N := some 60) (v := ?_) (a' := ?_) #[true, true, true, true, true, true, true, true, true, true, false, false, false, false] rfl rfl (take_ofW HT_.out HW_.out (by kernel_rfl)) (fun _ _ _ h => h) (Or.inl ⟨by rfl, ?_⟩) hHeld ?_ ?_
                  rotate_left
                  ·rintro w' ⟨s0, s1, s2, s3⟩
                   go_simp
                   with_reducible rfl
                  rotate_left
                  ·simp only [Act.put, List.setIfInBounds_toArray, List.set_cons_zero, List.set_cons_succ, i64_w, i32_w]
                   rfl
                  refine take_ (i := 10) (N := some 65) (v := ?_) (a' := ?_) #[true, true, true, true, true, true, true, true, true, true, true, false, false, false] rfl rfl (take_ofW HT_.out HW_.out (by kernel_rfl)) (fun _ _ _ h => h) (Or.inl ⟨by rfl, ?_⟩) hHeld ?_ ?_
                  rotate_left
                  ·rintro w' ⟨s0, s1, s2, s3⟩
                   go_simp
                   with_reducible rfl
                  rotate_left
                  ·simp only [Act.put, List.setIfInBounds_toArray, List.set_cons_zero, List.set_cons_succ, i64_w, i32_w]
                   rfl
                  refine pure_ (i := 11) (N := some 66) (v := ?_) (a' := ?_) #[true, true, true, true, true, true, true, true, true, true, true, true, false, false] rfl rfl (any_of HT_.out (by kernel_rfl)) (fun _ _ _ h => h) (Or.inl ⟨by rfl, ?_⟩) ?_ ?_
                  rotate_left
                  ·intro w'
                   go_simp
                   with_reducible rfl
                  rotate_left
                  ·simp only [Act.put, List.setIfInBounds_toArray, List.set_cons_zero, List.set_cons_succ, i64_w, i32_w]
                   rfl
                  refine pure_ (i := 12) (N := some 67) (v := ?_) (a' := ?_) #[true, true, true, true, true, true, true, true, true, true, true, true, true, false] rfl rfl (any_of HT_.out (by kernel_rfl)) (fun _ _ _ h => h) (Or.inl ⟨by rfl, ?_⟩) ?_ ?_
                  rotate_left
                  ·intro w'
                   go_simp
                   with_reducible rfl
                  rotate_left
                  ·simp only [Act.put, List.setIfInBounds_toArray, List.set_cons_zero, List.set_cons_succ, i64_w, i32_w]
                   rfl
                  refine last_ (i := 13) (N := none) #[true, true, true, true, true, true, true, true, true, true, true, true, true, true] rfl rfl (one_of HT_.out (by kernel_rfl)) (by decide) (fun K hK => ?_)
                  refine skip_ (w1 := ?_) (by rfl) rfl ?_ ?_
                  rotate_left
                  ·go_simp
                   rfl
                  refine hK.out _ _ ?_
                  clear hK K
                  refine done_ (done_of HT_.out (by kernel_rfl)) ?_
                  have p34 : 0 ≤ (((rd_T40 t142 x9_2).f1) : Int) := of_decide_eq_true (by first | (with_reducible assumption) | assumption)
                  have q34 : (((rd_T40 t142 x9_2).f1) : Int) < ((x6_2.length : Int) : Int) := of_decide_eq_true (by first | (with_reducible assumption) | assumption)
                  replace p34 := eq_true p34
                  replace q34 := eq_true q34
                  try go_wp2
                  go_roundg kj14
                  case measure => have := HK1.out; have := HK2.out; have := HJ14.out; omega
                  case rel => exact ⟨(y158), (x7_2), (wrap64 (x9_2 + 1)), (by first | rfl | (simp; done) | (simp [*]; done)), (by first | rfl | (simp; done) | (simp [*]; done)), H', ⟨by have := HK1.out; have := HK2.out; have := HJ14.out; omega⟩, ⟨by (with_reducible repeat (first | apply Kd.V_alloc | apply Kd.V_drewN | apply Kd.V_drew)); exact Kd.V_mono (Kd.V_far (p := ⟨go33, (((rd_T40 t142 x9_2).f1) : Int).toNat, none⟩) (Kd.V_mono HO_5.out (fun k_ hk => (⟨hk, fun e_ => hk.1 (by rw [e_]; rfl)⟩ : _ ∧ k_ ≠ go33))) (fun _ hk => hk.2) (.int .i64 (wrap64 ((rd x6_2 ((rd_T40 t142 x9_2).f1)) + ((rd_T40 t142 x9_2).f2))))) (fun _ hk => ⟨hk.1.1, hk.1.2⟩)⟩, ⟨by (with_reducible repeat (first | apply Kd.R_alloc | apply Kd.R_drewN | apply Kd.R_drew)); exact HQ41.out⟩, ⟨by (with_reducible repeat (first | apply Kd.R_alloc | apply Kd.R_drewN | apply Kd.R_drew)); exact Kd.R_mono (Kd.R_far (p := ⟨go33, (((rd_T40 t142 x9_2).f1) : Int).toNat, none⟩) (Kd.R_types HO_8.out GG33.out (by decide)) (fun _ hk => hk.2) (.int .i64 (wrap64 ((rd x6_2 ((rd_T40 t142 x9_2).f1)) + ((rd_T40 t142 x9_2).f2))))) (fun _ hk => trivial)⟩, ⟨by repeat (first | (with_reducible first | exact HB.out | apply below_alloc | apply pw_below_drewN | apply below_drew1 | refine below_set ?_ GB33.out) | exact HB.out)⟩⟩
               ·rw [if_neg c22] at H
                exact absurd H (by simp)
              ·rw [if_neg c21] at H
               exact absurd H (by simp)
             ·rw [if_neg c20] at H
              exact absurd H (by simp)
            ·rw [if_neg c19] at H
             exact absurd H (by simp)
           ·replace c18 := Bool.eq_false_iff.mpr c18
            subst c18
            have H1 : (if a1 = 2 then (barrowref01_sweep.j3 kj14 l0 a1 t142 x6_2 x7_2 x8_1 x9_2 ((rd_T40 t142 x9_1).f0) (x7_2 == (l0.length : Int))) else (barrowref01_sweep.j3 kj14 l0 a1 t142 x6_2 x7_2 x8_1 x9_2 ((rd_T40 t142 x9_1).f0) (decide (x7_2 > 0)))) = some r := by rw [if_neg (show ¬ (false = true) by decide)] at H; exact H
            clear H
            have H := H1
            clear H1
            have HC42 := Aside0.mk H
            clear H
            go_upto_if 80 with (fail)
            go_cut [12] (fun v12 wc => ∃ (kq : Nat) (x12_41 : Bool), v12 = .bool x12_41 ∧ Aside0 (barrowref01_sweep.j3 kq l0 a1 t142 x6_2 x7_2 x8_1 x9_2 ((rd_T40 t142 x9_1).f0) x12_41 = some r) ∧ Aside0 (kq ≤ kj14) ∧ Aside0 (Kd.V k40 40 wc w.heap.size (fun k_ => some k_ ≠ (v146 : Value).ownBlock ∧ some k_ ≠ (u8 : Value).ownBlock) (.slice (some ad148) t142.length co14) t142) ∧ Aside0 (Kd.R (Kd.int .i64) 3 wc w.heap.size (fun _ => True) v146 x6_2) ∧ Aside0 (Kd.R k24 24 wc w.heap.size (fun _ => True) u8 x8_1) ∧ Aside0 (Below w.heap.size w wc))
            case first =>
             have H := HC42.out
             clear HC42
             by_cases c43 : a1 = 2
             ·rw [if_pos c43] at H
              have c43b0 : (a1 == 2) = true := beq_iff_eq.mpr c43
              have c43b1 : (a1 != 2) = false := bne_eq_false_iff_eq.mpr c43
              clear c43
              (first | rw [c43b0] | (simp only [i64_w, i32_w]; rw [c43b0]) | skip)
              have H' := Aside0.mk H
              clear H
              go_wp2
              go_meet
              case rel => exact ⟨_, ((x7_2 == (l0.length : Int))), (by first | rfl | (simp; done) | (simp [*]; done)), H', ⟨by have := HK1.out; have := HK2.out; have := HJ14.out; first | omega | exact Nat.le_refl _⟩, ⟨by (with_reducible repeat (first | apply Kd.V_alloc | apply Kd.V_drewN | apply Kd.V_drew)); exact HO_5.out⟩, ⟨by (with_reducible repeat (first | apply Kd.R_alloc | apply Kd.R_drewN | apply Kd.R_drew)); exact HO_6.out⟩, ⟨by (with_reducible repeat (first | apply Kd.R_alloc | apply Kd.R_drewN | apply Kd.R_drew)); exact HO_8.out⟩, ⟨by repeat (first | (with_reducible first | exact HB.out | apply below_alloc | apply pw_below_drewN | apply below_drew1) | exact HB.out)⟩⟩
             ·rw [if_neg c43] at H
              have c43b0 : (a1 == 2) = false := beq_eq_false_iff_ne.mpr c43
              have c43b1 : (a1 != 2) = true := bne_iff_ne.mpr c43
              (first | rw [c43b0] | (simp only [i64_w, i32_w]; rw [c43b0]) | skip)
              have H' := Aside0.mk H
              clear H
              go_wp2
              go_meet
              case rel => exact ⟨_, (decide (x7_2 > 0)), (by first | rfl | (simp; done) | (simp [*]; done)), H', ⟨by have := HK1.out; have := HK2.out; have := HJ14.out; first | omega | exact Nat.le_refl _⟩, ⟨by (with_reducible repeat (first | apply Kd.V_alloc | apply Kd.V_drewN | apply Kd.V_drew)); exact HO_5.out⟩, ⟨by (with_reducible repeat (first | apply Kd.R_alloc | apply Kd.R_drewN | apply Kd.R_drew)); exact HO_6.out⟩, ⟨by (with_reducible repeat (first | apply Kd.R_alloc | apply Kd.R_drewN | apply Kd.R_drew)); exact HO_8.out⟩, ⟨by repeat (first | (with_reducible first | exact HB.out | apply below_alloc | apply pw_below_drewN | apply below_drew1) | exact HB.out)⟩⟩
            case rest =>
             clear HC42
             try clear c1
             try clear p1
             try clear q1
             try clear hx1
             try clear c2
             try clear p2
             try clear q2
             try clear hx2
             try clear hf2
             try clear c3
             try clear p3
             try clear q3
             try clear hx3
             try clear hf3
             try clear c4
             try clear p6
             try clear p15
             try clear q15
             try clear hx15
             try clear c18
             try clear c19
             try clear c20
             try clear c21
             try clear c22
             try clear c23
             try clear c23b0
             try clear p24
             try clear q24
             try clear hx24
             try clear hf24
             try clear p25
             try clear q25
             try clear c26
             try clear c26b0
             try clear p33
             try clear q33
             try clear hx33
             try clear hf33
             try clear p34
             try clear q34
             try clear c35
             try clear c35b0
             try clear c43
             try clear c43b0
             try clear c43b1
             try clear hx150_0
             try clear hx150_1
             try clear hx150_2
             try clear hx151_0
             try clear hx152_0
             try clear hx153_0
             try clear hx153_1
             try clear hx153_2
             try clear hx156_0
             try clear hx157_0
             try clear hx157_1
             try clear hx157_2
             try clear hx24_0
             try clear hx33_0
             try clear p150
             try clear p151
             try clear p152
             try clear p153
             try clear p156
             try clear p157
             try clear p24
             try clear p25
             try clear p33
             try clear p34
             try clear q150
             try clear q151
             try clear q152
             try clear q153
             try clear q156
             try clear q157
             try clear q24
             try clear q25
             try clear q33
             try clear q34
             obtain ⟨kq, x12_41, rfl, HA, HJ41, HO_5, HO_6, HO_8, HB⟩ := hcut
             cases kq with
             | zero => exact absurd HA.out (by simp [barrowref01_sweep.j3])
             | succ kj41 =>
              have H := HA.out
              clear HA
              simp only [barrowref01_sweep.j3] at H
              have HC44 := Aside0.mk H
              clear H
              go_upto_if 86 with (fail)
              go_cut [12] (fun v12 wc => ∃ (kq : Nat) (x12_43 : Bool), v12 = .bool x12_43 ∧ Aside0 (barrowref01_sweep.j4 kq l0 a1 t142 x6_2 x7_2 x8_1 x9_2 ((rd_T40 t142 x9_1).f0) x12_43 = some r) ∧ Aside0 (kq ≤ kj41) ∧ Aside0 (Kd.V k40 40 wc w.heap.size (fun k_ => some k_ ≠ (v146 : Value).ownBlock ∧ some k_ ≠ (u8 : Value).ownBlock) (.slice (some ad148) t142.length co14) t142) ∧ Aside0 (Kd.R (Kd.int .i64) 3 wc w.heap.size (fun _ => True) v146 x6_2) ∧ Aside0 (Kd.R k24 24 wc w.heap.size (fun _ => True) u8 x8_1) ∧ Aside0 (Below w.heap.size w wc))
              case first =>
               have H := HC44.out
               clear HC44
               by_cases c45 : a1 = 3
               ·rw [if_pos c45] at H
                have c45b0 : (a1 == 3) = true := beq_iff_eq.mpr c45
                have c45b1 : (a1 != 3) = false := bne_eq_false_iff_eq.mpr c45
                clear c45
                (first | rw [c45b0] | (simp only [i64_w, i32_w]; rw [c45b0]) | skip)
                by_cases c46 : x7_2 = 1
                ·rw [if_pos c46] at H
                 have c46b0 : (x7_2 == 1) = true := beq_iff_eq.mpr c46
                 have c46b1 : (x7_2 != 1) = false := bne_eq_false_iff_eq.mpr c46
                 clear c46
                 by_cases c47 : 0 < (x6_2.length : Int)
                 ·rw [if_pos c47] at H
                  have c47b0 : decide (0 < (x6_2.length : Int)) = true := decide_eq_true c47
                  have c47b1 : decide (0 < x6_2.length) = true := decide_eq_true (by omega)
                  clear c47
                  have H' := Aside0.mk H
                  clear H
                  obtain ⟨Ao48, co48, eo48⟩ := Kd.R_slice HO_6.out
                  subst eo48
                  have p160 : 0 ≤ (0 : Int) := (by omega)
                  have q160 : 0 < (x6_2.length : Int) := of_decide_eq_true (by first | (with_reducible assumption) | assumption)
                  obtain ⟨ad160, e160, hx160_0⟩ := Kd.at_int (Kd.R_reads' HO_6.out).2.2 0 p160 q160
                  cases e160
                  have qi160 : (0 < x6_2.length) = True := eq_true (by omega)
                  (try rw [show ((0 : Int)).toNat = 0 from rfl] at hx160_0)
                  (try rw [Addr.add_zero'] at hx160_0)
                  replace p160 := eq_true p160
                  replace q160 := eq_true q160
                  go_wp2
                  go_meet
                  case rel => exact ⟨_, (decide ((rd x6_2 0) > 0)), (by first | rfl | (simp; done) | (simp [*]; done)), H', ⟨by have := HK1.out; have := HK2.out; have := HJ14.out; have := HJ41.out; first | omega | exact Nat.le_refl _⟩, ⟨by (with_reducible repeat (first | apply Kd.V_alloc | apply Kd.V_drewN | apply Kd.V_drew)); exact HO_5.out⟩, ⟨by (with_reducible repeat (first | apply Kd.R_alloc | apply Kd.R_drewN | apply Kd.R_drew)); exact HO_6.out⟩, ⟨by (with_reducible repeat (first | apply Kd.R_alloc | apply Kd.R_drewN | apply Kd.R_drew)); exact HO_8.out⟩, ⟨by repeat (first | (with_reducible first | exact HB.out | apply below_alloc | apply pw_below_drewN | apply below_drew1) | exact HB.out)⟩⟩
                 ·rw [if_neg c47] at H
                  exact absurd H (by simp)
                ·rw [if_neg c46] at H
                 have c46b0 : (x7_2 == 1) = false := beq_eq_false_iff_ne.mpr c46
                 have c46b1 : (x7_2 != 1) = true := bne_iff_ne.mpr c46
                 have H' := Aside0.mk H
                 clear H
                 go_wp2
                 go_meet
                 case rel => exact ⟨_, (false), (by first | rfl | (simp; done) | (simp [*]; done)), H', ⟨by have := HK1.out; have := HK2.out; have := HJ14.out; have := HJ41.out; first | omega | exact Nat.le_refl _⟩, ⟨by (with_reducible repeat (first | apply Kd.V_alloc | apply Kd.V_drewN | apply Kd.V_drew)); exact HO_5.out⟩, ⟨by (with_reducible repeat (first | apply Kd.R_alloc | apply Kd.R_drewN | apply Kd.R_drew)); exact HO_6.out⟩, ⟨by (with_reducible repeat (first | apply Kd.R_alloc | apply Kd.R_drewN | apply Kd.R_drew)); exact HO_8.out⟩, ⟨by repeat (first | (with_reducible first | exact HB.out | apply below_alloc | apply pw_below_drewN | apply below_drew1) | exact HB.out)⟩⟩
               ·rw [if_neg c45] at H
                have c45b0 : (a1 == 3) = false := beq_eq_false_iff_ne.mpr c45
                have c45b1 : (a1 != 3) = true := bne_iff_ne.mpr c45
                (first | rw [c45b0] | (simp only [i64_w, i32_w]; rw [c45b0]) | skip)
                have H' := Aside0.mk H
                clear H
                go_wp2
                go_meet
                case rel => exact ⟨_, (x12_41), (by first | rfl | (simp; done) | (simp [*]; done)), H', ⟨by have := HK1.out; have := HK2.out; have := HJ14.out; have := HJ41.out; first | omega | exact Nat.le_refl _⟩, ⟨by (with_reducible repeat (first | apply Kd.V_alloc | apply Kd.V_drewN | apply Kd.V_drew)); exact HO_5.out⟩, ⟨by (with_reducible repeat (first | apply Kd.R_alloc | apply Kd.R_drewN | apply Kd.R_drew)); exact HO_6.out⟩, ⟨by (with_reducible repeat (first | apply Kd.R_alloc | apply Kd.R_drewN | apply Kd.R_drew)); exact HO_8.out⟩, ⟨by repeat (first | (with_reducible first | exact HB.out | apply below_alloc | apply pw_below_drewN | apply below_drew1) | exact HB.out)⟩⟩
              case rest =>
               clear HC44
               try clear c1
               try clear p1
               try clear q1
               try clear hx1
               try clear qi1
               try clear c2
               try clear p2
               try clear q2
               try clear hx2
               try clear hf2
               try clear c3
               try clear p3
               try clear q3
               try clear hx3
               try clear hf3
               try clear c4
               try clear p6
               try clear p15
               try clear q15
               try clear hx15
               try clear p16
               try clear q16
               try clear hx16
               try clear qi16
               try clear c18
               try clear c19
               try clear c20
               try clear c21
               try clear c22
               try clear c23
               try clear c23b0
               try clear p24
               try clear q24
               try clear hx24
               try clear hf24
               try clear p25
               try clear q25
               try clear c26
               try clear c26b0
               try clear p33
               try clear q33
               try clear hx33
               try clear hf33
               try clear p34
               try clear q34
               try clear c35
               try clear c35b0
               try clear c43
               try clear c43b0
               try clear c43b1
               try clear c45
               try clear c45b0
               try clear c45b1
               try clear c46
               try clear c46b0
               try clear c46b1
               try clear c47
               try clear c47b0
               try clear c47b1
               try clear hx150_0
               try clear hx150_1
               try clear hx150_2
               try clear hx151_0
               try clear hx152_0
               try clear hx153_0
               try clear hx153_1
               try clear hx153_2
               try clear hx156_0
               try clear hx157_0
               try clear hx157_1
               try clear hx157_2
               try clear hx160_0
               try clear hx24_0
               try clear hx33_0
               try clear p1
               try clear p15
               try clear p150
               try clear p151
               try clear p152
               try clear p153
               try clear p156
               try clear p157
               try clear p160
               try clear p2
               try clear p24
               try clear p25
               try clear p3
               try clear p33
               try clear p34
               try clear p6
               try clear q1
               try clear q15
               try clear q150
               try clear q151
               try clear q152
               try clear q153
               try clear q156
               try clear q157
               try clear q160
               try clear q2
               try clear q24
               try clear q25
               try clear q3
               try clear q33
               try clear q34
               obtain ⟨kq, x12_43, rfl, HA, HJ43, HO_5, HO_6, HO_8, HB⟩ := hcut
               cases kq with
               | zero => exact absurd HA.out (by simp [barrowref01_sweep.j4])
               | succ kj43 =>
                have H := HA.out
                clear HA
                simp only [barrowref01_sweep.j4] at H
                have HC49 := Aside0.mk H
                clear H
                go_upto_region 22 with (fail)
                go_cut [102] (fun v102 wc => ∃ (kq : Nat) (x102_48 : Bool), v102 = .bool x102_48 ∧ Aside0 (barrowref01_sweep.j5 kq l0 a1 t142 x6_2 x7_2 x8_1 x9_2 ((rd_T40 t142 x9_1).f0) x102_48 = some r) ∧ Aside0 (kq ≤ kj43) ∧ Aside0 (Kd.V k40 40 wc w.heap.size (fun k_ => some k_ ≠ (v146 : Value).ownBlock ∧ some k_ ≠ (u8 : Value).ownBlock) (.slice (some ad148) t142.length co14) t142) ∧ Aside0 (Kd.R (Kd.int .i64) 3 wc w.heap.size (fun _ => True) v146 x6_2) ∧ Aside0 (Kd.R k24 24 wc w.heap.size (fun _ => True) u8 x8_1) ∧ Aside0 (Below w.heap.size w wc))
                case first =>
                 have H := HC49.out
                 clear HC49
                 by_cases c50 : x12_43 = true
                 ·subst c50
                  have H1 : (barrowref01_sweep.j5 kj43 l0 a1 t142 x6_2 x7_2 x8_1 x9_2 ((rd_T40 t142 x9_1).f0) (decide (x9_2 ≥ (t142.length : Int)))) = some r := by rw [if_pos rfl] at H; exact H
                  clear H
                  have H := H1
                  clear H1
                  have H' := Aside0.mk H
                  clear H
                  go_wp2
                  go_meet
                  case rel => exact ⟨_, (decide (x9_2 ≥ (t142.length : Int))), (by first | rfl | (simp; done) | (simp [*]; done)), H', ⟨by have := HK1.out; have := HK2.out; have := HJ14.out; have := HJ41.out; have := HJ43.out; first | omega | exact Nat.le_refl _⟩, ⟨by (with_reducible repeat (first | apply Kd.V_alloc | apply Kd.V_drewN | apply Kd.V_drew)); exact HO_5.out⟩, ⟨by (with_reducible repeat (first | apply Kd.R_alloc | apply Kd.R_drewN | apply Kd.R_drew)); exact HO_6.out⟩, ⟨by (with_reducible repeat (first | apply Kd.R_alloc | apply Kd.R_drewN | apply Kd.R_drew)); exact HO_8.out⟩, ⟨by repeat (first | (with_reducible first | exact HB.out | apply below_alloc | apply pw_below_drewN | apply below_drew1) | exact HB.out)⟩⟩
                 ·replace c50 := Bool.eq_false_iff.mpr c50
                  subst c50
                  have H1 : (barrowref01_sweep.j5 kj43 l0 a1 t142 x6_2 x7_2 x8_1 x9_2 ((rd_T40 t142 x9_1).f0) true) = some r := by rw [if_neg (show ¬ (false = true) by decide)] at H; exact H
                  clear H
                  have H := H1
                  clear H1
                  have H' := Aside0.mk H
                  clear H
                  go_wp2
                  go_meet
                  case rel => exact ⟨_, (true), (by first | rfl | (simp; done) | (simp [*]; done)), H', ⟨by have := HK1.out; have := HK2.out; have := HJ14.out; have := HJ41.out; have := HJ43.out; first | omega | exact Nat.le_refl _⟩, ⟨by (with_reducible repeat (first | apply Kd.V_alloc | apply Kd.V_drewN | apply Kd.V_drew)); exact HO_5.out⟩, ⟨by (with_reducible repeat (first | apply Kd.R_alloc | apply Kd.R_drewN | apply Kd.R_drew)); exact HO_6.out⟩, ⟨by (with_reducible repeat (first | apply Kd.R_alloc | apply Kd.R_drewN | apply Kd.R_drew)); exact HO_8.out⟩, ⟨by repeat (first | (with_reducible first | exact HB.out | apply below_alloc | apply pw_below_drewN | apply below_drew1) | exact HB.out)⟩⟩
                case rest =>
                 clear HC49
                 try clear c1
                 try clear p1
                 try clear q1
                 try clear hx1
                 try clear qi1
                 try clear c2
                 try clear p2
                 try clear q2
                 try clear hx2
                 try clear hf2
                 try clear c3
                 try clear p3
                 try clear q3
                 try clear hx3
                 try clear hf3
                 try clear c4
                 try clear c5
                 try clear p6
                 try clear p15
                 try clear q15
                 try clear hx15
                 try clear p16
                 try clear q16
                 try clear hx16
                 try clear qi16
                 try clear c18
                 try clear c19
                 try clear c20
                 try clear c21
                 try clear c22
                 try clear c23
                 try clear c23b0
                 try clear p24
                 try clear q24
                 try clear hx24
                 try clear hf24
                 try clear p25
                 try clear q25
                 try clear c26
                 try clear c26b0
                 try clear p33
                 try clear q33
                 try clear hx33
                 try clear hf33
                 try clear p34
                 try clear q34
                 try clear c35
                 try clear c35b0
                 try clear c43
                 try clear c43b0
                 try clear c43b1
                 try clear c45
                 try clear c45b0
                 try clear c45b1
                 try clear c46
                 try clear c46b0
                 try clear c46b1
                 try clear c47
                 try clear c47b0
                 try clear c47b1
                 try clear c50
                 try clear hx150_0
                 try clear hx150_1
                 try clear hx150_2
                 try clear hx151_0
                 try clear hx152_0
                 try clear hx153_0
                 try clear hx153_1
                 try clear hx153_2
                 try clear hx156_0
                 try clear hx157_0
                 try clear hx157_1
                 try clear hx157_2
                 try clear hx160_0
                 try clear hx24_0
                 try clear hx33_0
                 try clear p1
                 try clear p15
                 try clear p150
                 try clear p151
                 try clear p152
                 try clear p153
                 try clear p156
                 try clear p157
                 try clear p16
                 try clear p160
                 try clear p2
                 try clear p24
                 try clear p25
                 try clear p3
                 try clear p33
                 try clear p34
                 try clear p6
                 try clear q1
                 try clear q15
                 try clear q150
                 try clear q151
                 try clear q152
                 try clear q153
                 try clear q156
                 try clear q157
                 try clear q16
                 try clear q160
                 try clear q2
                 try clear q24
                 try clear q25
                 try clear q3
                 try clear q33
                 try clear q34
                 obtain ⟨kq, x102_48, rfl, HA, HJ48, HO_5, HO_6, HO_8, HB⟩ := hcut
                 cases kq with
                 | zero => exact absurd HA.out (by simp [barrowref01_sweep.j5])
                 | succ kj48 =>
                  have H := HA.out
                  clear HA
                  simp only [barrowref01_sweep.j5] at H
                  by_cases c51 : x102_48 = true
                  ·subst c51
                   have H1 : (barrowref01_sweep.l0 kj48 l0 a1 t142 x6_2 x7_2 x8_1 x9_2) = some r := by rw [if_pos rfl] at H; exact H
                   clear H
                   have H := H1
                   clear H1
                   have H' := Aside0.mk H
                   clear H
                   go_wp2
                   go_roundg kj48
                   case measure => have := HK1.out; have := HK2.out; have := HJ14.out; have := HJ41.out; have := HJ43.out; have := HJ48.out; omega
                   case rel => exact ⟨(x6_2), (x7_2), (x8_1), (x9_2), (by first | rfl | (simp; done) | (simp [*]; done)), (by first | rfl | (simp; done) | (simp [*]; done)), H', ⟨by have := HK1.out; have := HK2.out; have := HJ14.out; have := HJ41.out; have := HJ43.out; have := HJ48.out; omega⟩, ⟨by (with_reducible repeat (first | apply Kd.V_alloc | apply Kd.V_drewN | apply Kd.V_drew)); exact HO_5.out⟩, ⟨by (with_reducible repeat (first | apply Kd.R_alloc | apply Kd.R_drewN | apply Kd.R_drew)); exact HO_6.out⟩, ⟨by (with_reducible repeat (first | apply Kd.R_alloc | apply Kd.R_drewN | apply Kd.R_drew)); exact HO_8.out⟩, ⟨by repeat (first | (with_reducible first | exact HB.out | apply below_alloc | apply pw_below_drewN | apply below_drew1) | exact HB.out)⟩⟩
                  ·replace c51 := Bool.eq_false_iff.mpr c51
                   subst c51
                   have H1 : (if 0 ≤ x9_2 then (if x9_2 < (t142.length : Int) then (if (x8_1.length : Int) > 0 then (if 0 ≤ (wrap64 ((x8_1.length : Int) - 1)) then (if (wrap64 ((x8_1.length : Int) - 1)) < (x8_1.length : Int) then (if ((rd_T24 x8_1 (wrap64 ((x8_1.length : Int) - 1))).f1) = (wrap64 (((rd_T40 t142 x9_1).f0) - 1)) then (barrowref01_sweep.l0 kj48 l0 a1 t142 x6_2 x7_2 (x8_1.set ((wrap64 ((x8_1.length : Int) - 1)) : Int).toNat (⟨(rd_T24 x8_1 (wrap64 ((x8_1.length : Int) - 1))).f0, wrap64 (((rd_T40 t142 x9_2).f0) - 1)⟩ : S24)) x9_2) else (if x8_1.length < 8796093022208 then (barrowref01_sweep.l0 kj48 l0 a1 t142 x6_2 x7_2 (x8_1 ++ [(⟨((rd_T40 t142 x9_1).f0), wrap64 (((rd_T40 t142 x9_2).f0) - 1)⟩ : S24)]) x9_2) else (none))) else (none)) else (none)) else (if x8_1.length < 8796093022208 then (barrowref01_sweep.l0 kj48 l0 a1 t142 x6_2 x7_2 (x8_1 ++ [(⟨((rd_T40 t142 x9_1).f0), wrap64 (((rd_T40 t142 x9_2).f0) - 1)⟩ : S24)]) x9_2) else (none))) else (none)) else (none)) = some r := by rw [if_neg (show ¬ (false = true) by decide)] at H; exact H
                   clear H
                   have H := H1
                   clear H1
                   by_cases c52 : 0 ≤ x9_2
                   ·rw [if_pos c52] at H
                    have c52b0 : decide (0 ≤ x9_2) = true := decide_eq_true c52
                    clear c52
                    by_cases c53 : x9_2 < (t142.length : Int)
                    ·rw [if_pos c53] at H
                     have c53b0 : decide (x9_2 < (t142.length : Int)) = true := decide_eq_true c53
                     clear c53
                     by_cases c54 : (x8_1.length : Int) > 0
                     ·rw [if_pos c54] at H
                      have c54b0 : decide (0 < (x8_1.length : Int)) = true := decide_eq_true c54
                      have c54b1 : decide (0 < x8_1.length) = true := decide_eq_true (by omega)
                      clear c54
                      obtain ⟨ji55, hji55⟩ : ∃ j_ : Int, (wrap64 ((x8_1.length : Int) - 1)) = j_ := ⟨_, rfl⟩
                      replace H : (if 0 ≤ (ji55) then (if (ji55) < (x8_1.length : Int) then (if ((rd_T24 x8_1 (ji55)).f1) = (wrap64 (((rd_T40 t142 x9_1).f0) - 1)) then (barrowref01_sweep.l0 kj48 l0 a1 t142 x6_2 x7_2 (x8_1.set ((ji55) : Int).toNat (⟨(rd_T24 x8_1 (ji55)).f0, wrap64 (((rd_T40 t142 x9_2).f0) - 1)⟩ : S24)) x9_2) else (if x8_1.length < 8796093022208 then (barrowref01_sweep.l0 kj48 l0 a1 t142 x6_2 x7_2 (x8_1 ++ [(⟨((rd_T40 t142 x9_1).f0), wrap64 (((rd_T40 t142 x9_2).f0) - 1)⟩ : S24)]) x9_2) else (none))) else (none)) else (none)) = some r := by first | (rw [hji55] at H; exact H) | (simp only [hji55] at H ⊢; exact H)
                      have hji55w : (IntKind.i64.wrap ((x8_1.length : Int) - 1)) = ji55 := (i64_w _).trans hji55
                      by_cases c56 : 0 ≤ (ji55)
                      ·rw [if_pos c56] at H
                       have c56b0 : decide (0 ≤ (ji55)) = true := decide_eq_true c56
                       clear c56
                       by_cases c57 : (ji55) < (x8_1.length : Int)
                       ·rw [if_pos c57] at H
                        have c57b0 : decide ((ji55) < (x8_1.length : Int)) = true := decide_eq_true c57
                        clear c57
                        by_cases c58 : ((rd_T24 x8_1 (ji55)).f1) = (wrap64 (((rd_T40 t142 x9_1).f0) - 1))
                        ·rw [if_pos c58] at H
                         have c58b0 : (((rd_T24 x8_1 (ji55)).f1) == (wrap64 (((rd_T40 t142 x9_1).f0) - 1))) = true := beq_iff_eq.mpr c58
                         have c58b1 : (((rd_T24 x8_1 (ji55)).f1) != (wrap64 (((rd_T40 t142 x9_1).f0) - 1))) = false := bne_eq_false_iff_eq.mpr c58
                         clear c58
                         obtain ⟨y163, hy163⟩ : ∃ y_ : List (S24), y_ = (x8_1.set ((ji55) : Int).toNat (⟨(rd_T24 x8_1 (ji55)).f0, wrap64 (((rd_T40 t142 x9_2).f0) - 1)⟩ : S24)) := ⟨_, rfl⟩
                         replace H : (barrowref01_sweep.l0 kj48 l0 a1 t142 x6_2 x7_2 y163 x9_2) = some r := by first | (rw [hy163]; with_reducible exact H) | (have H2_ := (Option.bind_some _ _).symm.trans H; rw [hy163]; with_reducible exact H2_) | (have H2_ := (Option.bind_some _ _).symm.trans H; with_reducible exact H2_) | with_reducible exact H | (rw [hy163]; exact H) | exact H
                         have Ny163 := Aside0.mk hy163
                         clear hy163
                         have H' := Aside0.mk H
                         clear H
                         have p161 : 0 ≤ (x9_2 : Int) := of_decide_eq_true (by first | (with_reducible assumption) | assumption)
                         have q161 : x9_2 < (t142.length : Int) := of_decide_eq_true (by first | (with_reducible assumption) | assumption)
                         obtain ⟨ad161, e161, hx161_0, hx161_1, hx161_2⟩ := at_T40 (Kd.V_reads' HO_5.out).2.2 x9_2 p161 q161
                         obtain rfl : ad148 = ad161 := (by injection e161)
                         replace p161 := eq_true p161
                         replace q161 := eq_true q161
                         obtain ⟨Ao60, co60, eo60⟩ := Kd.R_slice HO_8.out
                         subst eo60
                         have p162 : 0 ≤ ((ji55) : Int) := of_decide_eq_true (by first | (with_reducible assumption) | assumption)
                         have q162 : (ji55) < (x8_1.length : Int) := of_decide_eq_true (by first | (with_reducible assumption) | assumption)
                         obtain ⟨ad162, e162, hx162_0, hx162_1⟩ := at_T24 (Kd.R_reads' HO_8.out).2.2 (ji55) p162 q162
                         cases e162
                         replace p162 := eq_true p162
                         replace q162 := eq_true q162
                         have p59 : 0 ≤ ((ji55) : Int) := of_decide_eq_true (by first | (with_reducible assumption) | assumption)
                         have q59 : ((ji55) : Int) < ((x8_1.length : Int) : Int) := of_decide_eq_true (by first | (with_reducible assumption) | assumption)
                         obtain ⟨go59, co59, eo59, gb59, gl59, cl59, HG59⟩ := Kd.R_form HO_8.out (by omega)
                         (first | cases eo59 | (injection eo59 with ea_ en_ ec_; (first | subst ea_ | (injection ea_ with ea_; subst ea_)); subst ec_; clear en_))
                         have GB59 := Aside0.mk gb59
                         have GG59 := Aside0.mk HG59
                         clear gb59 gl59 HG59
                         (first | simp only [add_plain] at hx162_0 | skip)
                         (first | simp only [add_plain] at hx162_1 | skip)
                         obtain ⟨ce59, hcl59, hM59, hcc59, hfr59⟩ := Kd.R_elem HO_8.out z24 ((ji55) : Int) p59 q59
                         obtain rfl := k24_openM hM59
                         have hx59_0 : wc.cell? ⟨go59, ((ji55) : Int).toNat * 2, none⟩ = some (.int .i64 ((rd_T24 x8_1 (ji55)).f0)) := hcc59 0 _ rfl
                         have hx59_1 : wc.cell? ⟨go59, ((ji55) : Int).toNat * 2 + 1, none⟩ = some (.int .i64 ((rd_T24 x8_1 (ji55)).f1)) := hcc59 1 _ rfl
                         have hf59_0 : wc.frozen? ⟨go59, ((ji55) : Int).toNat * 2, none⟩ = false := hfr59 0
                         have hf59_1 : wc.frozen? ⟨go59, ((ji55) : Int).toNat * 2 + 1, none⟩ = false := hfr59 1
                         clear hcl59 hcc59 hfr59 hM59
                         replace p59 := eq_true p59
                         replace q59 := eq_true q59
                         have HX61 := Aside0.mk (show Kd.R k24 24 wc w.heap.size (fun _ => True) (.slice (some ⟨go59, 0, none⟩) x8_1.length co60) x8_1 from (by (with_reducible repeat (first | apply Kd.R_alloc | apply Kd.R_drewN | apply Kd.R_drew)); exact HO_8.out))
                         obtain ⟨ce61, hcl61, hM61, hcc61, hfr61⟩ := Kd.R_elem HX61.out z24 ((ji55) : Int) (of_decide_eq_true (by first | (with_reducible assumption) | assumption)) (by have h_ : ((ji55) : Int) < ((x8_1.length : Int) : Int) := of_decide_eq_true (by first | (with_reducible assumption) | assumption); first | exact h_ | (have e_ := (Kd.R_reads' HO_8.out).1; omega) | simpa using h_)
                         obtain rfl := k24_openM hM61
                         have HP61 := Kd.R_seg HX61.out ((ji55) : Int) (of_decide_eq_true (by first | (with_reducible assumption) | assumption)) (by have h_ : ((ji55) : Int) < ((x8_1.length : Int) : Int) := of_decide_eq_true (by first | (with_reducible assumption) | assumption); first | exact h_ | (have e_ := (Kd.R_reads' HO_8.out).1; omega) | simpa using h_) (seg := [.int .i64 (wrap64 (((rd_T40 t142 x9_2).f0) - 1))]) (j := 1) hcl61 hcc61 (show 2 ≤ 2 from by decide) (x' := (⟨(rd_T24 x8_1 (ji55)).f0, wrap64 (((rd_T40 t142 x9_2).f0) - 1)⟩ : S24)) (k24_mkM _ _ _ (⟨(rd_T24 x8_1 (ji55)).f0, wrap64 (((rd_T40 t142 x9_2).f0) - 1)⟩ : S24) ) (fun _ hk => hk)
                         have hx61_1 := hcc61 1 _ rfl
                         (try simp only [show (k24).sz = 2 from rfl, Nat.mul_one, Nat.add_zero] at hx61_1)
                         have hf61_1 := hfr61 1
                         (try simp only [show (k24).sz = 2 from rfl, Nat.mul_one, Nat.add_zero] at hf61_1)
                         clear hcl61 hcc61 hfr61 hM61
                         go_wp2_with (first | ((with_reducible refine gate_store (t := 3) (p := 130) rfl ?_); refine store_event (t := 3) (p := 130) (v := ?vo_w62) (w1 := (wc.setCell ⟨go59, ((ji55) : Int).toNat * 2 + 1, none⟩ (.int .i64 (wrap64 (((rd_T40 t142 x9_2).f0) - 1))))) ?hg ?ho ?hn ?hr ?_; (case ho => rfl); (case hg => rfl); (case hn => rfl); (case hr => first | (go_simp; done) | (go_simp; rfl)); intro w62 hw; have hg : wc.grownBy w62 (some go59) := (by rw [hw]; exact HP61.2); have hp_ : Kd.R k24 24 w62 w.heap.size (fun _ => True) (.slice (some ⟨go59, 0, none⟩) x8_1.length co60) y163 := (by rw [hw, Ny163.out]; exact HP61.1); clear HP61; have n0_ := Aside0.mk (Kd.V_afterv (v := (.slice (some ⟨go59, 0, none⟩) x8_1.length co60)) (v1 := (.slice (some ⟨go59, 0, none⟩) x8_1.length co60)) (ok := (fun k_ => some k_ ≠ (v146 : Value).ownBlock)) (by (with_reducible repeat (first | apply Kd.V_alloc | apply Kd.V_drewN | apply Kd.V_drew)); exact HO_5.out) hg (.inl rfl)); have n1_ := Aside0.mk (Kd.R_over' (v := (.slice (some ⟨go59, 0, none⟩) x8_1.length co60)) (by (with_reducible repeat (first | apply Kd.R_alloc | apply Kd.R_drewN | apply Kd.R_drew)); exact HO_6.out) (Kd.R_typed HO_8.out) (by decide) hg); have n2_ := Aside0.mk (hp_); have n3_ := Aside0.mk ((by rw [hw]; exact below_set (HB.out) GB59.out : Below w.heap.size w w62)); clear HO_5; clear HO_6; clear HO_8; clear HB; have HO_5 := n0_; have HO_6 := n1_; have HO_8 := n2_; have HB := n3_; clear n0_ n1_ n2_ n3_; clear hg hw hp_))
                         go_roundg kj48
                         case measure => have := HK1.out; have := HK2.out; have := HJ14.out; have := HJ41.out; have := HJ43.out; have := HJ48.out; omega
                         case rel => exact ⟨(x6_2), (x7_2), (y163), (x9_2), (by first | rfl | (simp; done) | (simp [*]; done)), (by first | rfl | (simp; done) | (simp [*]; done)), H', ⟨by have := HK1.out; have := HK2.out; have := HJ14.out; have := HJ41.out; have := HJ43.out; have := HJ48.out; omega⟩, ⟨by (with_reducible repeat (first | apply Kd.V_alloc | apply Kd.V_drewN | apply Kd.V_drew)); exact HO_5.out⟩, ⟨by (with_reducible repeat (first | apply Kd.R_alloc | apply Kd.R_drewN | apply Kd.R_drew)); exact HO_6.out⟩, ⟨by (with_reducible repeat (first | apply Kd.R_alloc | apply Kd.R_drewN | apply Kd.R_drew)); exact HO_8.out⟩, ⟨by repeat (first | (with_reducible first | exact HB.out | apply below_alloc | apply pw_below_drewN | apply below_drew1) | exact HB.out)⟩⟩
                        ·rw [if_neg c58] at H
                         have c58b0 : (((rd_T24 x8_1 (ji55)).f1) == (wrap64 (((rd_T40 t142 x9_1).f0) - 1))) = false := beq_eq_false_iff_ne.mpr c58
                         have c58b1 : (((rd_T24 x8_1 (ji55)).f1) != (wrap64 (((rd_T40 t142 x9_1).f0) - 1))) = true := bne_iff_ne.mpr c58
                         by_cases c63 : x8_1.length < 8796093022208
                         ·rw [if_pos c63] at H
                          have LMc63 := Aside0.mk c63
                          clear c63
                          obtain ⟨y164, hy164⟩ : ∃ y_ : List (S24), y_ = (x8_1 ++ [(⟨((rd_T40 t142 x9_1).f0), wrap64 (((rd_T40 t142 x9_2).f0) - 1)⟩ : S24)]) := ⟨_, rfl⟩
                          replace H : (barrowref01_sweep.l0 kj48 l0 a1 t142 x6_2 x7_2 y164 x9_2) = some r := by first | (rw [hy164]; with_reducible exact H) | (have H2_ := (Option.bind_some _ _).symm.trans H; rw [hy164]; with_reducible exact H2_) | (have H2_ := (Option.bind_some _ _).symm.trans H; with_reducible exact H2_) | with_reducible exact H | (rw [hy164]; exact H) | exact H
                          have Ny164 := Aside0.mk hy164
                          clear hy164
                          have H' := Aside0.mk H
                          clear H
                          have p161 : 0 ≤ (x9_2 : Int) := of_decide_eq_true (by first | (with_reducible assumption) | assumption)
                          have q161 : x9_2 < (t142.length : Int) := of_decide_eq_true (by first | (with_reducible assumption) | assumption)
                          obtain ⟨ad161, e161, hx161_0, hx161_1, hx161_2⟩ := at_T40 (Kd.V_reads' HO_5.out).2.2 x9_2 p161 q161
                          obtain rfl : ad148 = ad161 := (by injection e161)
                          replace p161 := eq_true p161
                          replace q161 := eq_true q161
                          obtain ⟨Ao64, co64, eo64⟩ := Kd.R_slice HO_8.out
                          subst eo64
                          have p162 : 0 ≤ ((ji55) : Int) := of_decide_eq_true (by first | (with_reducible assumption) | assumption)
                          have q162 : (ji55) < (x8_1.length : Int) := of_decide_eq_true (by first | (with_reducible assumption) | assumption)
                          obtain ⟨ad162, e162, hx162_0, hx162_1⟩ := at_T24 (Kd.R_reads' HO_8.out).2.2 (ji55) p162 q162
                          cases e162
                          replace p162 := eq_true p162
                          replace q162 := eq_true q162
                          go_wp2_with (first | ((with_reducible refine gate_builtin (b := .append) (xs := #[.tmp 131, .tmp 135]) rfl ?_); (try (refine gate_guard (by rfl) ?_; dsimp only)); at_builtin; refine Kd.R_append k24 (w0 := w) w.heap.size rfl (.tmp 131) (.tmp 135) 22 24 (.agg #[(.int .i64 0), (.int .i64 0)]) 16 rfl Try.underlying22 info24 rfl (by decide) (by omega) (.slice (some ad162) x8_1.length co64) x8_1 (⟨((rd_T40 t142 x9_1).f0), wrap64 (((rd_T40 t142 x9_2).f0) - 1)⟩ : S24) [.int .i64 ((rd_T40 t142 x9_1).f0), .int .i64 (wrap64 (((rd_T40 t142 x9_2).f0) - 1))] (fun _ => True) (fun _ => False) rfl rfl ?aP (fun _ hk => hk.elim) ?aF ?aO ?aB ?aS ?aL ?_; (case aP => exact k24_mkM _ _ _ (⟨((rd_T40 t142 x9_1).f0), wrap64 (((rd_T40 t142 x9_2).f0) - 1)⟩ : S24)); (case aB => exact (by repeat (first | (with_reducible first | exact HB.out | apply below_alloc | apply pw_below_drewN | apply below_drew1) | exact HB.out))); (case aF => exact (fun _ _ => trivial)); (case aO => exact (by (with_reducible repeat (first | apply Kd.R_alloc | apply Kd.R_drewN | apply Kd.R_drew)); exact HO_8.out)); (case aS => exact (below_size (by repeat (first | (with_reducible first | exact HB.out | apply below_alloc | apply pw_below_drewN | apply below_drew1) | exact HB.out)))); (case aL => have := LMc63.out; omega); intro v165 w65 ho hb hg hat; rw [← Ny164.out] at ho; have n0_ := Aside0.mk (Kd.V_afterv (ok := (fun k_ => some k_ ≠ (v146 : Value).ownBlock)) (by (with_reducible repeat (first | apply Kd.V_alloc | apply Kd.V_drewN | apply Kd.V_drew)); exact HO_5.out) hg hat); have n1_ := Aside0.mk (Kd.R_over' (by (with_reducible repeat (first | apply Kd.R_alloc | apply Kd.R_drewN | apply Kd.R_drew)); exact HO_6.out) (Kd.R_typed (by (with_reducible repeat (first | apply Kd.R_alloc | apply Kd.R_drewN | apply Kd.R_drew)); exact HO_8.out)) (by decide) hg); have n2_ := Aside0.mk (hb); have n3_ := Aside0.mk (ho); clear HO_5; clear HO_6; clear HB; clear HO_8; have HO_5 := n0_; have HO_6 := n1_; have HB := n2_; have HO166 := n3_; clear n0_ n1_ n2_ n3_; clear ho hb hg hat))
                          go_roundg kj48
                          case measure => have := HK1.out; have := HK2.out; have := HJ14.out; have := HJ41.out; have := HJ43.out; have := HJ48.out; omega
                          case rel => exact ⟨(x6_2), (x7_2), (y164), (x9_2), (by first | rfl | (simp; done) | (simp [*]; done)), (by first | rfl | (simp; done) | (simp [*]; done)), H', ⟨by have := HK1.out; have := HK2.out; have := HJ14.out; have := HJ41.out; have := HJ43.out; have := HJ48.out; omega⟩, ⟨by (with_reducible repeat (first | apply Kd.V_alloc | apply Kd.V_drewN | apply Kd.V_drew)); exact HO_5.out⟩, ⟨by (with_reducible repeat (first | apply Kd.R_alloc | apply Kd.R_drewN | apply Kd.R_drew)); exact HO_6.out⟩, ⟨by (with_reducible repeat (first | apply Kd.R_alloc | apply Kd.R_drewN | apply Kd.R_drew)); exact HO166.out⟩, ⟨by repeat (first | (with_reducible first | exact HB.out | apply below_alloc | apply pw_below_drewN | apply below_drew1) | exact HB.out)⟩⟩
                         ·rw [if_neg c63] at H
                          exact absurd H (by simp)
                       ·rw [if_neg c57] at H
                        exact absurd H (by simp)
                      ·rw [if_neg c56] at H
                       exact absurd H (by simp)
                     ·rw [if_neg c54] at H
                      have c54b0 : decide (0 < (x8_1.length : Int)) = false := decide_eq_false c54
                      have c54b1 : decide (0 < x8_1.length) = false := decide_eq_false (by omega)
                      clear c54
                      by_cases c66 : x8_1.length < 8796093022208
                      ·rw [if_pos c66] at H
                       have LMc66 := Aside0.mk c66
                       clear c66
                       obtain ⟨y167, hy167⟩ : ∃ y_ : List (S24), y_ = (x8_1 ++ [(⟨((rd_T40 t142 x9_1).f0), wrap64 (((rd_T40 t142 x9_2).f0) - 1)⟩ : S24)]) := ⟨_, rfl⟩
                       replace H : (barrowref01_sweep.l0 kj48 l0 a1 t142 x6_2 x7_2 y167 x9_2) = some r := by first | (rw [hy167]; with_reducible exact H) | (have H2_ := (Option.bind_some _ _).symm.trans H; rw [hy167]; with_reducible exact H2_) | (have H2_ := (Option.bind_some _ _).symm.trans H; with_reducible exact H2_) | with_reducible exact H | (rw [hy167]; exact H) | exact H
                       have Ny167 := Aside0.mk hy167
                       clear hy167
                       have H' := Aside0.mk H
                       clear H
                       have p161 : 0 ≤ (x9_2 : Int) := of_decide_eq_true (by first | (with_reducible assumption) | assumption)
                       have q161 : x9_2 < (t142.length : Int) := of_decide_eq_true (by first | (with_reducible assumption) | assumption)
                       obtain ⟨ad161, e161, hx161_0, hx161_1, hx161_2⟩ := at_T40 (Kd.V_reads' HO_5.out).2.2 x9_2 p161 q161
                       obtain rfl : ad148 = ad161 := (by injection e161)
                       replace p161 := eq_true p161
                       replace q161 := eq_true q161
                       obtain ⟨Ao67, co67, eo67⟩ := Kd.R_slice HO_8.out
                       subst eo67
                       go_wp2_with (first | ((with_reducible refine gate_builtin (b := .append) (xs := #[.tmp 131, .tmp 135]) rfl ?_); (try (refine gate_guard (by rfl) ?_; dsimp only)); at_builtin; refine Kd.R_append k24 (w0 := w) w.heap.size rfl (.tmp 131) (.tmp 135) 22 24 (.agg #[(.int .i64 0), (.int .i64 0)]) 16 rfl Try.underlying22 info24 rfl (by decide) (by omega) (.slice Ao67 x8_1.length co67) x8_1 (⟨((rd_T40 t142 x9_1).f0), wrap64 (((rd_T40 t142 x9_2).f0) - 1)⟩ : S24) [.int .i64 ((rd_T40 t142 x9_1).f0), .int .i64 (wrap64 (((rd_T40 t142 x9_2).f0) - 1))] (fun _ => True) (fun _ => False) rfl rfl ?aP (fun _ hk => hk.elim) ?aF ?aO ?aB ?aS ?aL ?_; (case aP => exact k24_mkM _ _ _ (⟨((rd_T40 t142 x9_1).f0), wrap64 (((rd_T40 t142 x9_2).f0) - 1)⟩ : S24)); (case aB => exact (by repeat (first | (with_reducible first | exact HB.out | apply below_alloc | apply pw_below_drewN | apply below_drew1) | exact HB.out))); (case aF => exact (fun _ _ => trivial)); (case aO => exact (by (with_reducible repeat (first | apply Kd.R_alloc | apply Kd.R_drewN | apply Kd.R_drew)); exact HO_8.out)); (case aS => exact (below_size (by repeat (first | (with_reducible first | exact HB.out | apply below_alloc | apply pw_below_drewN | apply below_drew1) | exact HB.out)))); (case aL => have := LMc66.out; omega); intro v168 w68 ho hb hg hat; rw [← Ny167.out] at ho; have n0_ := Aside0.mk (Kd.V_afterv (ok := (fun k_ => some k_ ≠ (v146 : Value).ownBlock)) (by (with_reducible repeat (first | apply Kd.V_alloc | apply Kd.V_drewN | apply Kd.V_drew)); exact HO_5.out) hg hat); have n1_ := Aside0.mk (Kd.R_over' (by (with_reducible repeat (first | apply Kd.R_alloc | apply Kd.R_drewN | apply Kd.R_drew)); exact HO_6.out) (Kd.R_typed (by (with_reducible repeat (first | apply Kd.R_alloc | apply Kd.R_drewN | apply Kd.R_drew)); exact HO_8.out)) (by decide) hg); have n2_ := Aside0.mk (hb); have n3_ := Aside0.mk (ho); clear HO_5; clear HO_6; clear HB; clear HO_8; have HO_5 := n0_; have HO_6 := n1_; have HB := n2_; have HO169 := n3_; clear n0_ n1_ n2_ n3_; clear ho hb hg hat))
                       go_roundg kj48
                       case measure => have := HK1.out; have := HK2.out; have := HJ14.out; have := HJ41.out; have := HJ43.out; have := HJ48.out; omega
                       case rel => exact ⟨(x6_2), (x7_2), (y167), (x9_2), (by first | rfl | (simp; done) | (simp [*]; done)), (by first | rfl | (simp; done) | (simp [*]; done)), H', ⟨by have := HK1.out; have := HK2.out; have := HJ14.out; have := HJ41.out; have := HJ43.out; have := HJ48.out; omega⟩, ⟨by (with_reducible repeat (first | apply Kd.V_alloc | apply Kd.V_drewN | apply Kd.V_drew)); exact HO_5.out⟩, ⟨by (with_reducible repeat (first | apply Kd.R_alloc | apply Kd.R_drewN | apply Kd.R_drew)); exact HO_6.out⟩, ⟨by (with_reducible repeat (first | apply Kd.R_alloc | apply Kd.R_drewN | apply Kd.R_drew)); exact HO169.out⟩, ⟨by repeat (first | (with_reducible first | exact HB.out | apply below_alloc | apply pw_below_drewN | apply below_drew1) | exact HB.out)⟩⟩
                      ·rw [if_neg c66] at H
                       exact absurd H (by simp)
                    ·rw [if_neg c53] at H
                     exact absurd H (by simp)
                   ·rw [if_neg c52] at H
                    exact absurd H (by simp)
      ·rw [if_neg c13] at H
       exact absurd H (by simp)
     ·rw [if_neg c12] at H
      have c12b0 : decide (x9_1 < (t142.length : Int)) = false := decide_eq_false c12
      clear c12
      obtain rfl := Option.some.inj H
      obtain ⟨Ao69, co69, eo69⟩ := Kd.V_slice HO_5.out
      subst eo69
      go_wp2
      go_ret
      exact ⟨_, by first | rfl | (simp [errW_none, errW_some] <;> rfl) | (simp [*, errW_none, errW_some] <;> rfl), by (with_reducible repeat (first | apply Kd.R_alloc | apply Kd.R_drewN | apply Kd.R_drew)); exact HO_8.out, by repeat (first | (with_reducible first | exact HB.out | apply below_alloc | apply pw_below_drewN | apply below_drew1) | exact HB.out)⟩
  ·rw [if_neg c6] at H
   exact absurd H (by simp)
 ·rw [if_neg c5] at H
  exact absurd H (by simp)

end Go.Proofs.Ytcblhfnjcanliaa.G
