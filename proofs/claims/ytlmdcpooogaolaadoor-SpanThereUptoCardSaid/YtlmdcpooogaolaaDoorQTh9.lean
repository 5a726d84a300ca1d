import Derived.Test.YtlmdcpooogaolaaDoorQTh7
import Derived.Test.YtlmdcpooogaolaaDoorQTh8
-- PRINTED by print.py (a twelfth state) out of the translation. Not trusted: Lean checks it.
namespace Go.Proofs.YtlmdcpooogaolaaDoor.G
open Go.RowKit Go.Proofs.YtlmdcpooogaolaaDoorW.PrintWords Go.Proofs.YtlmdcpooogaolaaDoorW.PrintLast Go.Proofs.YtlmdcpooogaolaaDoorW.PrintMore
attribute [local go_sem] max2_int min2_int max_two min_two max_three min_three max_four min_four   -- for this text's walks alone
set_option linter.unusedVariables false
set_option linter.unusedSimpArgs false

/-! ### barrowref01_sweep: function 25 -/
mutual
def barrowref01_sweep.l0 : Nat → List (List (S32)) → Int → List (S76) → List Int → Int → List (S32) → Int → Option ((List (S32)))
 | 0, _, _, _, _, _, _, _ => none
 | k + 1, x0, x1, x5, x6, x7, x8, x9 => if x9 < (x5.length : Int) then (if 0 ≤ x9 then (barrowref01_sweep.l1 k x0 x1 x5 x6 x7 x8 x9 ((rd_T76 x5 x9).f0)) else (none)) else (some x8)
def barrowref01_sweep.l1 : Nat → List (List (S32)) → Int → List (S76) → List Int → Int → List (S32) → Int → Int → Option ((List (S32)))
 | 0, _, _, _, _, _, _, _, _ => none
 | k + 1, x0, x1, x5, x6, x7, x8, x9, x10 => if x9 < (x5.length : Int) then (if 0 ≤ x9 then (barrowref01_sweep.j2 k x0 x1 x5 x6 x7 x8 x9 x10 (((rd_T76 x5 x9).f0) == x10)) else (none)) else (barrowref01_sweep.j2 k x0 x1 x5 x6 x7 x8 x9 x10 false)
def barrowref01_sweep.j2 : Nat → List (List (S32)) → Int → List (S76) → List Int → Int → List (S32) → Int → Int → Bool → Option ((List (S32)))
 | 0, _, _, _, _, _, _, _, _, _ => none
 | k + 1, x0, x1, x5, x6, x7, x8, x9, x10, x42 => if x42 = true then (if 0 ≤ x9 then (if x9 < (x5.length : Int) then (if 0 ≤ ((rd_T76 x5 x9).f1) then (if ((rd_T76 x5 x9).f1) < (x6.length : Int) then (if (rd x6 ((rd_T76 x5 x9).f1)) > 0 then ((some (x6.set (((rd_T76 x5 x9).f1) : Int).toNat (wrap64 ((rd x6 ((rd_T76 x5 x9).f1)) + ((rd_T76 x5 x9).f2))) : List Int)).bind fun y202 => (if (wrap64 ((rd x6 ((rd_T76 x5 x9).f1)) + ((rd_T76 x5 x9).f2))) > 0 then (barrowref01_sweep.l1 k x0 x1 x5 y202 (wrap64 ((wrap64 (x7 - 1)) + 1)) x8 (wrap64 (x9 + 1)) x10) else (barrowref01_sweep.l1 k x0 x1 x5 y202 (wrap64 (x7 - 1)) x8 (wrap64 (x9 + 1)) x10))) else ((some (x6.set (((rd_T76 x5 x9).f1) : Int).toNat (wrap64 ((rd x6 ((rd_T76 x5 x9).f1)) + ((rd_T76 x5 x9).f2))) : List Int)).bind fun y206 => (if (wrap64 ((rd x6 ((rd_T76 x5 x9).f1)) + ((rd_T76 x5 x9).f2))) > 0 then (barrowref01_sweep.l1 k x0 x1 x5 y206 (wrap64 (x7 + 1)) x8 (wrap64 (x9 + 1)) x10) else (barrowref01_sweep.l1 k x0 x1 x5 y206 x7 x8 (wrap64 (x9 + 1)) x10)))) else (none)) else (none)) else (none)) else (none)) else (if x1 = 2 then (barrowref01_sweep.j3 k x0 x1 x5 x6 x7 x8 x9 x10 (x7 == (x0.length : Int))) else (barrowref01_sweep.j3 k x0 x1 x5 x6 x7 x8 x9 x10 (decide (x7 > 0))))
def barrowref01_sweep.j3 : Nat → List (List (S32)) → Int → List (S76) → List Int → Int → List (S32) → Int → Int → Bool → Option ((List (S32)))
 | 0, _, _, _, _, _, _, _, _, _ => none
 | k + 1, x0, x1, x5, x6, x7, x8, x9, x10, x12 => if x1 = 3 then (if x7 = 1 then (if 0 < (x6.length : Int) then (barrowref01_sweep.j4 k x0 x1 x5 x6 x7 x8 x9 x10 (decide ((rd x6 0) > 0))) else (none)) else (barrowref01_sweep.j4 k x0 x1 x5 x6 x7 x8 x9 x10 false)) else (barrowref01_sweep.j4 k x0 x1 x5 x6 x7 x8 x9 x10 x12)
def barrowref01_sweep.j4 : Nat → List (List (S32)) → Int → List (S76) → List Int → Int → List (S32) → Int → Int → Bool → Option ((List (S32)))
 | 0, _, _, _, _, _, _, _, _, _ => none
 | k + 1, x0, x1, x5, x6, x7, x8, x9, x10, x12 => if x12 = true then (barrowref01_sweep.j5 k x0 x1 x5 x6 x7 x8 x9 x10 (decide (x9 ≥ (x5.length : Int)))) else (barrowref01_sweep.j5 k x0 x1 x5 x6 x7 x8 x9 x10 true)
def barrowref01_sweep.j5 : Nat → List (List (S32)) → Int → List (S76) → List Int → Int → List (S32) → Int → Int → Bool → Option ((List (S32)))
 | 0, _, _, _, _, _, _, _, _, _ => none
 | k + 1, x0, x1, x5, x6, x7, x8, x9, x10, x102 => if x102 = true then (barrowref01_sweep.l0 k x0 x1 x5 x6 x7 x8 x9) else (if 0 ≤ x9 then (if x9 < (x5.length : Int) then (if (x8.length : Int) > 0 then (if 0 ≤ (wrap64 ((x8.length : Int) - 1)) then (if (wrap64 ((x8.length : Int) - 1)) < (x8.length : Int) then (if ((rd_T32 x8 (wrap64 ((x8.length : Int) - 1))).f1) = (wrap64 (x10 - 1)) then (barrowref01_sweep.l0 k x0 x1 x5 x6 x7 (x8.set ((wrap64 ((x8.length : Int) - 1)) : Int).toNat (⟨(rd_T32 x8 (wrap64 ((x8.length : Int) - 1))).f0, wrap64 (((rd_T76 x5 x9).f0) - 1)⟩ : S32)) x9) else (if x8.length < 8796093022208 then (barrowref01_sweep.l0 k x0 x1 x5 x6 x7 (x8 ++ [(⟨x10, wrap64 (((rd_T76 x5 x9).f0) - 1)⟩ : S32)]) x9) else (none))) else (none)) else (none)) else (if x8.length < 8796093022208 then (barrowref01_sweep.l0 k x0 x1 x5 x6 x7 (x8 ++ [(⟨x10, wrap64 (((rd_T76 x5 x9).f0) - 1)⟩ : S32)]) x9) else (none))) else (none)) else (none))
end
def barrowref01_sweep.f (k : Nat) (l0 : List (List (S32))) (a1 : Int) : Option ((List (S32))) := (barrowref01_marks.f k l0).bind fun t187 => ((barrowref01_sorted.f k t187).bind fun t190 => (if 0 ≤ (l0.length : Int) then (if ((l0.length : Int) : Int).toNat ≤ 35184372088832 then (barrowref01_sweep.l0 k l0 a1 t190 (List.replicate ((l0.length : Int) : Int).toNat 0) 0 ([] : List (S32)) 0) else (none)) else (none)))
theorem barrowref01_sweep.mono_l : ∀ k, (∀ y0 y1 y2 y3 y4 y5 y6, LeO (barrowref01_sweep.l0 k y0 y1 y2 y3 y4 y5 y6) (barrowref01_sweep.l0 (k + 1) y0 y1 y2 y3 y4 y5 y6)) ∧ (∀ y0 y1 y2 y3 y4 y5 y6 y7, LeO (barrowref01_sweep.l1 k y0 y1 y2 y3 y4 y5 y6 y7) (barrowref01_sweep.l1 (k + 1) y0 y1 y2 y3 y4 y5 y6 y7)) ∧ (∀ y0 y1 y2 y3 y4 y5 y6 y7 y8, LeO (barrowref01_sweep.j2 k y0 y1 y2 y3 y4 y5 y6 y7 y8) (barrowref01_sweep.j2 (k + 1) y0 y1 y2 y3 y4 y5 y6 y7 y8)) ∧ (∀ y0 y1 y2 y3 y4 y5 y6 y7 y8, LeO (barrowref01_sweep.j3 k y0 y1 y2 y3 y4 y5 y6 y7 y8) (barrowref01_sweep.j3 (k + 1) y0 y1 y2 y3 y4 y5 y6 y7 y8)) ∧ (∀ y0 y1 y2 y3 y4 y5 y6 y7 y8, LeO (barrowref01_sweep.j4 k y0 y1 y2 y3 y4 y5 y6 y7 y8) (barrowref01_sweep.j4 (k + 1) y0 y1 y2 y3 y4 y5 y6 y7 y8)) ∧ (∀ y0 y1 y2 y3 y4 y5 y6 y7 y8, LeO (barrowref01_sweep.j5 k y0 y1 y2 y3 y4 y5 y6 y7 y8) (barrowref01_sweep.j5 (k + 1) y0 y1 y2 y3 y4 y5 y6 y7 y8))
 | 0 => ⟨fun _ _ _ _ _ _ _ r h => by simp [barrowref01_sweep.l0] at h, fun _ _ _ _ _ _ _ _ r h => by simp [barrowref01_sweep.l1] at h, fun _ _ _ _ _ _ _ _ _ r h => by simp [barrowref01_sweep.j2] at h, fun _ _ _ _ _ _ _ _ _ r h => by simp [barrowref01_sweep.j3] at h, fun _ _ _ _ _ _ _ _ _ r h => by simp [barrowref01_sweep.j4] at h, fun _ _ _ _ _ _ _ _ _ r h => by simp [barrowref01_sweep.j5] at h⟩
 | k + 1 => by
  obtain ⟨ih0, ih1, ih2, ih3, ih4, ih5⟩ := barrowref01_sweep.mono_l k
  refine ⟨?_, ?_, ?_, ?_, ?_, ?_⟩
  ·intro y0 y1 y2 y3 y4 y5 y6
   unfold barrowref01_sweep.l0
   repeat' first
   | (with_reducible exact ih0 _ _ _ _ _ _ _)
   | (with_reducible exact ih1 _ _ _ _ _ _ _ _)
   | (with_reducible exact ih2 _ _ _ _ _ _ _ _ _)
   | (with_reducible exact ih3 _ _ _ _ _ _ _ _ _)
   | (with_reducible exact ih4 _ _ _ _ _ _ _ _ _)
   | (with_reducible exact ih5 _ _ _ _ _ _ _ _ _)
   | (with_reducible exact barrowref01_marks.mono _ _)
   | (with_reducible exact barrowref01_sorted.mono _ _)
   | (with_reducible exact LeO.refl _)
   | (with_reducible exact LeO.none _)
   | (with_reducible refine LeO.ite ?_ ?_)
   | (with_reducible refine LeO.bind ?_ (fun _ => ?_))
   | exact ih0 _ _ _ _ _ _ _
   | exact ih1 _ _ _ _ _ _ _ _
   | exact ih2 _ _ _ _ _ _ _ _ _
   | exact ih3 _ _ _ _ _ _ _ _ _
   | exact ih4 _ _ _ _ _ _ _ _ _
   | exact ih5 _ _ _ _ _ _ _ _ _
   | exact barrowref01_marks.mono _ _
   | exact barrowref01_sorted.mono _ _
   | exact LeO.none _
   | refine LeO.ite ?_ ?_
   | refine LeO.bind ?_ (fun _ => ?_)
  ·intro y0 y1 y2 y3 y4 y5 y6 y7
   unfold barrowref01_sweep.l1
   repeat' first
   | (with_reducible exact ih0 _ _ _ _ _ _ _)
   | (with_reducible exact ih1 _ _ _ _ _ _ _ _)
   | (with_reducible exact ih2 _ _ _ _ _ _ _ _ _)
   | (with_reducible exact ih3 _ _ _ _ _ _ _ _ _)
   | (with_reducible exact ih4 _ _ _ _ _ _ _ _ _)
   | (with_reducible exact ih5 _ _ _ _ _ _ _ _ _)
   | (with_reducible exact barrowref01_marks.mono _ _)
   | (with_reducible exact barrowref01_sorted.mono _ _)
   | (with_reducible exact LeO.refl _)
   | (with_reducible exact LeO.none _)
   | (with_reducible refine LeO.ite ?_ ?_)
   | (with_reducible refine LeO.bind ?_ (fun _ => ?_))
   | exact ih0 _ _ _ _ _ _ _
   | exact ih1 _ _ _ _ _ _ _ _
   | exact ih2 _ _ _ _ _ _ _ _ _
   | exact ih3 _ _ _ _ _ _ _ _ _
   | exact ih4 _ _ _ _ _ _ _ _ _
   | exact ih5 _ _ _ _ _ _ _ _ _
   | exact barrowref01_marks.mono _ _
   | exact barrowref01_sorted.mono _ _
   | exact LeO.none _
   | refine LeO.ite ?_ ?_
   | refine LeO.bind ?_ (fun _ => ?_)
  ·intro y0 y1 y2 y3 y4 y5 y6 y7 y8
   unfold barrowref01_sweep.j2
   repeat' first
   | (with_reducible exact ih0 _ _ _ _ _ _ _)
   | (with_reducible exact ih1 _ _ _ _ _ _ _ _)
   | (with_reducible exact ih2 _ _ _ _ _ _ _ _ _)
   | (with_reducible exact ih3 _ _ _ _ _ _ _ _ _)
   | (with_reducible exact ih4 _ _ _ _ _ _ _ _ _)
   | (with_reducible exact ih5 _ _ _ _ _ _ _ _ _)
   | (with_reducible exact barrowref01_marks.mono _ _)
   | (with_reducible exact barrowref01_sorted.mono _ _)
   | (with_reducible exact LeO.refl _)
   | (with_reducible exact LeO.none _)
   | (with_reducible refine LeO.ite ?_ ?_)
   | (with_reducible refine LeO.bind ?_ (fun _ => ?_))
   | exact ih0 _ _ _ _ _ _ _
   | exact ih1 _ _ _ _ _ _ _ _
   | exact ih2 _ _ _ _ _ _ _ _ _
   | exact ih3 _ _ _ _ _ _ _ _ _
   | exact ih4 _ _ _ _ _ _ _ _ _
   | exact ih5 _ _ _ _ _ _ _ _ _
   | exact barrowref01_marks.mono _ _
   | exact barrowref01_sorted.mono _ _
   | exact LeO.none _
   | refine LeO.ite ?_ ?_
   | refine LeO.bind ?_ (fun _ => ?_)
  ·intro y0 y1 y2 y3 y4 y5 y6 y7 y8
   unfold barrowref01_sweep.j3
   repeat' first
   | (with_reducible exact ih0 _ _ _ _ _ _ _)
   | (with_reducible exact ih1 _ _ _ _ _ _ _ _)
   | (with_reducible exact ih2 _ _ _ _ _ _ _ _ _)
   | (with_reducible exact ih3 _ _ _ _ _ _ _ _ _)
   | (with_reducible exact ih4 _ _ _ _ _ _ _ _ _)
   | (with_reducible exact ih5 _ _ _ _ _ _ _ _ _)
   | (with_reducible exact barrowref01_marks.mono _ _)
   | (with_reducible exact barrowref01_sorted.mono _ _)
   | (with_reducible exact LeO.refl _)
   | (with_reducible exact LeO.none _)
   | (with_reducible refine LeO.ite ?_ ?_)
   | (with_reducible refine LeO.bind ?_ (fun _ => ?_))
   | exact ih0 _ _ _ _ _ _ _
   | exact ih1 _ _ _ _ _ _ _ _
   | exact ih2 _ _ _ _ _ _ _ _ _
   | exact ih3 _ _ _ _ _ _ _ _ _
   | exact ih4 _ _ _ _ _ _ _ _ _
   | exact ih5 _ _ _ _ _ _ _ _ _
   | exact barrowref01_marks.mono _ _
   | exact barrowref01_sorted.mono _ _
   | exact LeO.none _
   | refine LeO.ite ?_ ?_
   | refine LeO.bind ?_ (fun _ => ?_)
  ·intro y0 y1 y2 y3 y4 y5 y6 y7 y8
   unfold barrowref01_sweep.j4
   repeat' first
   | (with_reducible exact ih0 _ _ _ _ _ _ _)
   | (with_reducible exact ih1 _ _ _ _ _ _ _ _)
   | (with_reducible exact ih2 _ _ _ _ _ _ _ _ _)
   | (with_reducible exact ih3 _ _ _ _ _ _ _ _ _)
   | (with_reducible exact ih4 _ _ _ _ _ _ _ _ _)
   | (with_reducible exact ih5 _ _ _ _ _ _ _ _ _)
   | (with_reducible exact barrowref01_marks.mono _ _)
   | (with_reducible exact barrowref01_sorted.mono _ _)
   | (with_reducible exact LeO.refl _)
   | (with_reducible exact LeO.none _)
   | (with_reducible refine LeO.ite ?_ ?_)
   | (with_reducible refine LeO.bind ?_ (fun _ => ?_))
   | exact ih0 _ _ _ _ _ _ _
   | exact ih1 _ _ _ _ _ _ _ _
   | exact ih2 _ _ _ _ _ _ _ _ _
   | exact ih3 _ _ _ _ _ _ _ _ _
   | exact ih4 _ _ _ _ _ _ _ _ _
   | exact ih5 _ _ _ _ _ _ _ _ _
   | exact barrowref01_marks.mono _ _
   | exact barrowref01_sorted.mono _ _
   | exact LeO.none _
   | refine LeO.ite ?_ ?_
   | refine LeO.bind ?_ (fun _ => ?_)
  ·intro y0 y1 y2 y3 y4 y5 y6 y7 y8
   unfold barrowref01_sweep.j5
   repeat' first
   | (with_reducible exact ih0 _ _ _ _ _ _ _)
   | (with_reducible exact ih1 _ _ _ _ _ _ _ _)
   | (with_reducible exact ih2 _ _ _ _ _ _ _ _ _)
   | (with_reducible exact ih3 _ _ _ _ _ _ _ _ _)
   | (with_reducible exact ih4 _ _ _ _ _ _ _ _ _)
   | (with_reducible exact ih5 _ _ _ _ _ _ _ _ _)
   | (with_reducible exact barrowref01_marks.mono _ _)
   | (with_reducible exact barrowref01_sorted.mono _ _)
   | (with_reducible exact LeO.refl _)
   | (with_reducible exact LeO.none _)
   | (with_reducible refine LeO.ite ?_ ?_)
   | (with_reducible refine LeO.bind ?_ (fun _ => ?_))
   | exact ih0 _ _ _ _ _ _ _
   | exact ih1 _ _ _ _ _ _ _ _
   | exact ih2 _ _ _ _ _ _ _ _ _
   | exact ih3 _ _ _ _ _ _ _ _ _
   | exact ih4 _ _ _ _ _ _ _ _ _
   | exact ih5 _ _ _ _ _ _ _ _ _
   | exact barrowref01_marks.mono _ _
   | exact barrowref01_sorted.mono _ _
   | exact LeO.none _
   | refine LeO.ite ?_ ?_
   | refine LeO.bind ?_ (fun _ => ?_)
theorem barrowref01_sweep.mono : ∀ a0 a1 k, LeO (barrowref01_sweep.f k a0 a1) (barrowref01_sweep.f (k + 1) a0 a1) := by
 intro a0 a1 k
 obtain ⟨ih0, ih1, ih2, ih3, ih4, ih5⟩ := barrowref01_sweep.mono_l k
 unfold barrowref01_sweep.f
 repeat' first
   | (with_reducible exact ih0 _ _ _ _ _ _ _)
   | (with_reducible exact ih1 _ _ _ _ _ _ _ _)
   | (with_reducible exact ih2 _ _ _ _ _ _ _ _ _)
   | (with_reducible exact ih3 _ _ _ _ _ _ _ _ _)
   | (with_reducible exact ih4 _ _ _ _ _ _ _ _ _)
   | (with_reducible exact ih5 _ _ _ _ _ _ _ _ _)
   | (with_reducible exact barrowref01_marks.mono _ _)
   | (with_reducible exact barrowref01_sorted.mono _ _)
   | (with_reducible exact LeO.refl _)
   | (with_reducible exact LeO.none _)
   | (with_reducible refine LeO.ite ?_ ?_)
   | (with_reducible refine LeO.bind ?_ (fun _ => ?_))
   | exact ih0 _ _ _ _ _ _ _
   | exact ih1 _ _ _ _ _ _ _ _
   | exact ih2 _ _ _ _ _ _ _ _ _
   | exact ih3 _ _ _ _ _ _ _ _ _
   | exact ih4 _ _ _ _ _ _ _ _ _
   | exact ih5 _ _ _ _ _ _ _ _ _
   | exact barrowref01_marks.mono _ _
   | exact barrowref01_sorted.mono _ _
   | exact LeO.none _
   | refine LeO.ite ?_ ?_
   | refine LeO.bind ?_ (fun _ => ?_)
def barrowref01_sweep.T13 : Bool × List (List Nat × List Nat) := (true, [([], []), ([], []), ([], []), ([], []), ([2, 3], [2, 3]), ([4], [4]), ([], []), ([], []), ([6, 7], [6, 7]), ([8], [8]), ([9], [9]), ([5, 10], [5, 10]), ([0, 1, 0, 1, 2, 3, 4, 5, 6, 7, 8, 9, 10, 11], [0, 1]), ([12, 11, 0, 1, 2, 3, 4, 5, 6, 7, 8, 9, 10, 11], [11, 12])])
def barrowref01_sweep.B13 : List Nat := [0, 0, 0, 0, 12, 28, 0, 0, 192, 448, 960, 2044, 4095, 8191]
theorem barrowref01_sweep.tab13 : rtab .any (opsOf Tryd.f25 13) = barrowref01_sweep.T13 := by kernel_rfl
theorem barrowref01_sweep.bits13 : waitsOk barrowref01_sweep.T13.2 barrowref01_sweep.B13 = true := by kernel_rfl
set_option maxHeartbeats 8000000 in
set_option maxRecDepth 100000 in
theorem barrowref01_sweep.calls (k : Nat) (A0 : Option Addr) (c0 : Nat) (l0 : List (List (S32))) (a1 : Int) (r : List (S32)) (w : World) (hr0 : Kd.C (Kd.slice 32 k32) w A0 l0.length l0) (hc0 : l0.length ≤ c0) (h : barrowref01_sweep.f k l0 a1 = some r) :
  Calls Tryd.prog 25 #[.slice A0 l0.length c0, .int .i64 a1] w fun e w' => ∃ v0_ : Value, e = .returned (v0_) ∧ Kd.R k32 32 w' w.heap.size (fun _ => True) v0_ r ∧ Below w.heap.size w w' := by
 have hu32 := Tryd.underlying32
 have HR0 := Aside0.mk hr0
 have HC0 := Aside0.mk hc0
 clear hr0 hc0
 have HB := Aside0.mk (Below.refl w.heap.size w)
 have H : ((barrowref01_marks.f k l0).bind fun t187 => ((barrowref01_sorted.f k t187).bind fun t190 => (if 0 ≤ (l0.length : Int) then (if ((l0.length : Int) : Int).toNat ≤ 35184372088832 then (barrowref01_sweep.l0 k l0 a1 t190 (List.replicate ((l0.length : Int) : Int).toNat 0) 0 ([] : List (S32)) 0) else (none)) else (none)))) = some r := h
 clear h
 replace H := Option.bind_eq_some_iff.mp H
 obtain ⟨t187, A30, H⟩ := H
 replace H : ((barrowref01_sorted.f k t187).bind fun t190 => (if 0 ≤ (l0.length : Int) then (if ((l0.length : Int) : Int).toNat ≤ 35184372088832 then (barrowref01_sweep.l0 k l0 a1 t190 (List.replicate ((l0.length : Int) : Int).toNat 0) 0 ([] : List (S32)) 0) else (none)) else (none))) = some r := H
 have A3 := Aside0.mk A30
 clear A30
 replace H := Option.bind_eq_some_iff.mp H
 obtain ⟨t190, A40, H⟩ := H
 replace H : (if 0 ≤ (l0.length : Int) then (if ((l0.length : Int) : Int).toNat ≤ 35184372088832 then (barrowref01_sweep.l0 k l0 a1 t190 (List.replicate ((l0.length : Int) : Int).toNat 0) 0 ([] : List (S32)) 0) else (none)) else (none)) = some r := H
 have A4 := Aside0.mk A40
 clear A40
 by_cases c5 : 0 ≤ (l0.length : Int)
 ·rw [if_pos c5] at H
  have c5b0 := eq_true c5
  have c5b1 : decide (0 ≤ (l0.length : Int)) = true := decide_eq_true c5
  clear c5
  by_cases c6 : ((l0.length : Int) : Int).toNat ≤ 35184372088832
  ·rw [if_pos c6] at H
   have c6b0 := eq_true c6
   have c6b1 : decide (((l0.length : Int) : Int).toNat ≤ 35184372088832) = true := decide_eq_true c6
   clear c6
   obtain ⟨y193, hy193⟩ : ∃ y_ : List Int, y_ = (List.replicate ((l0.length : Int) : Int).toNat 0) := ⟨_, rfl⟩
   replace H : (barrowref01_sweep.l0 k l0 a1 t190 y193 0 ([] : List (S32)) 0) = some r := by first | (rw [hy193]; with_reducible exact H) | (have H2_ := (Option.bind_some _ _).symm.trans H; rw [hy193]; with_reducible exact H2_) | (have H2_ := (Option.bind_some _ _).symm.trans H; with_reducible exact H2_) | with_reducible exact H | (rw [hy193]; exact H) | exact H
   have Ny193 := Aside0.mk hy193
   clear hy193
   have H' := Aside0.mk H
   clear H
   go_enter Tryd.func25, Tryd.ntmps25
   go_wp2_with (first | ((with_reducible refine gate_callee (f := 38) rfl ?_); refine goesL_ (some 15) rfl rfl Tryd.func38 (by kernel_rfl) rfl #[.slice A0 l0.length c0] rfl (by (try simp only [List.map_toArray, List.map_cons, List.map_nil]); first | done | rfl | (simp only [List.length_drop, List.length_take]; rfl)) ?_; (with_reducible refine (barrowref01_marks.calls k _ _ l0 t187 _ ?side1 ?side2 A3.out).mono ?_); (case side1 => repeat (first | exact HR0.out | (with_reducible refine Kd.C_alloc ?_ _) | (with_reducible refine Kd.C_drewN ?_ _) | (with_reducible refine Kd.C_drew ?_))); (case side2 => exact HC0.out); rintro e w7 ⟨v188, rfl, ho0, hb⟩; refine ⟨_, rfl, ?_⟩; have n0_ := Aside0.mk (Kd.R_lower ho0 (below_size (by repeat (first | (with_reducible first | exact HB.out | apply below_alloc | apply pw_below_drewN | apply below_drew1) | exact HB.out)))); have n1_ := Aside0.mk (below_step (by repeat (first | (with_reducible first | exact HB.out | apply below_alloc | apply pw_below_drewN | apply below_drew1) | exact HB.out)) hb); clear HB; have HO189 := n0_; have HB := n1_; clear n0_ n1_; (try clear hb); (try clear hb2); (try clear hk); (try clear hi); (try clear ho0); obtain ⟨Ao8, co8, eo8⟩ := Kd.R_slice HO189.out; subst eo8) | ((with_reducible refine gate_callee (f := 39) rfl ?_); refine goesL_ (some 17) rfl rfl Tryd.func39 (by kernel_rfl) rfl #[.slice Ao8 t187.length co8] rfl (by (try simp only [List.map_toArray, List.map_cons, List.map_nil]); first | done | rfl | (simp only [List.length_drop, List.length_take]; rfl)) ?_; (with_reducible refine (barrowref01_sorted.calls k (fun k_ => some k_ = (.slice Ao8 t187.length co8 : Value).ownBlock) _ _ t187 t190 _ ?side1 A4.out).mono ?_); (case side1 => exact Kd.R_V (Kd.R_tight rfl (HO189.out))); rintro e w9 ⟨v191, rfl, ho0, hb⟩; refine ⟨_, rfl, ?_⟩; have n0_ := Aside0.mk (Kd.R_below (by (with_reducible repeat (first | apply Kd.R_alloc | apply Kd.R_drewN | apply Kd.R_drew)); exact HO189.out) hb); have n1_ := Aside0.mk (Kd.V_lower (Kd.V_mono (ok' := fun k_ => True) ho0 (fun k_ hk_ => trivial)) (below_size (by repeat (first | (with_reducible first | exact HB.out | apply below_alloc | apply pw_below_drewN | apply below_drew1) | exact HB.out)))); have n2_ := Aside0.mk (below_step (by repeat (first | (with_reducible first | exact HB.out | apply below_alloc | apply pw_below_drewN | apply below_drew1) | exact HB.out)) hb); clear HO189; clear HB; have HO189 := n0_; have HO192 := n1_; have HB := n2_; clear n0_ n1_ n2_; (try clear hb); (try clear hb2); (try clear hk); (try clear hi); (try clear ho0)) | ((with_reducible refine gate_dst (N := 20) rfl ?_); (try (refine gate_guard (by rfl) ?_; dsimp only)); refine Kd.R_make (Kd.int .i64) _ 3 rfl (N := 20) rfl 74 _ _ rfl (l0.length : Int) rfl rfl Tryd.underlying74 (.int .i64 0) 8 info3 rfl (by decide) (by omega) 0 (ok := fun _ => True) (okp := fun _ => True) rfl (fun _ hk => hk) trivial (of_decide_eq_true (by first | (with_reducible assumption) | assumption)) (Nat.le_trans (Nat.mul_le_mul_right _ (of_decide_eq_true (by first | (with_reducible assumption) | assumption) : (l0.length : Int).toNat ≤ 35184372088832)) (by omega)) (Below.refl _ _) (Nat.le_refl _) ?_; intro v194 w10 ho11 hb hg_ hnew_; clear hg_ hnew_; (first | rw [← Ny193.out] at ho11 | (simp only [Int.reduceToNat] at ho11; rw [← Ny193.out] at ho11)); have n0_ := Aside0.mk (Kd.R_below (by (with_reducible repeat (first | apply Kd.R_alloc | apply Kd.R_drewN | apply Kd.R_drew)); exact HO189.out) hb); have n1_ := Aside0.mk (Kd.V_elder' (by (with_reducible repeat (first | apply Kd.V_alloc | apply Kd.V_drewN | apply Kd.V_drew)); exact HO192.out) (Kd.R_base ho11) hb); have n2_ := Aside0.mk (Kd.R_lower ho11 (below_size (by repeat (first | (with_reducible first | exact HB.out | apply below_alloc | apply pw_below_drewN | apply below_drew1) | exact HB.out)))); have n3_ := Aside0.mk (below_step (by repeat (first | (with_reducible first | exact HB.out | apply below_alloc | apply pw_below_drewN | apply below_drew1) | exact HB.out)) hb); clear HO189; clear HO192; clear HB; have HO189 := n0_; have HO192 := n1_; have HO195 := n2_; have HB := n3_; clear n0_ n1_ n2_ n3_; clear hb ho11))
   go_loopg [7, 8, 9] k (fun kq v7 v8 v9 w' => ∃ (x6_1 : List Int) (x7_1 : Int) (x8_1 : List (S32)) (x9_1 : Int), v7 = .int .i64 x7_1 ∧ v9 = .int .i64 x9_1 ∧ Aside0 (barrowref01_sweep.l0 kq l0 a1 t190 x6_1 x7_1 x8_1 x9_1 = some r) ∧ Aside0 (kq ≤ k) ∧ Aside0 (Kd.V k76 76 w' w.heap.size (fun k_ => some k_ ≠ (v194 : Value).ownBlock ∧ some k_ ≠ (v8 : Value).ownBlock) v191 t190) ∧ Aside0 (Kd.R (Kd.int .i64) 3 w' w.heap.size (fun _ => True) v194 x6_1) ∧ Aside0 (Kd.R k32 32 w' w.heap.size (fun _ => True) v8 x8_1) ∧ Aside0 (Below w.heap.size w w'))
   case atStart => exact ⟨(y193), (0), (([] : List (S32))), (0), (by first | rfl | (simp; done) | (simp [*]; done)), (by first | rfl | (simp; done) | (simp [*]; done)), H', ⟨Nat.le_refl _⟩, ⟨by (with_reducible repeat (first | apply Kd.V_alloc | apply Kd.V_drewN | apply Kd.V_drew)); exact Kd.V_mono HO192.out (fun _ hk => ⟨hk.2, (by simp [Value.ownBlock])⟩)⟩, ⟨by (with_reducible repeat (first | apply Kd.R_alloc | apply Kd.R_drewN | apply Kd.R_drew)); exact HO195.out⟩, ⟨by first | exact Kd.R_nil _ _ _ _ _ | exact Kd.N_nil _ _ _ _ _ | exact Kd.V_nil _ _ _ _ _ | exact Kd.Q_nil _ _ _ _ _ | exact Kd.S_nil _ _ _ _ _⟩, ⟨by repeat (first | (with_reducible first | exact HB.out | apply below_alloc | apply pw_below_drewN | apply below_drew1) | exact HB.out)⟩⟩
   case round =>
    clear H'
    try clear c2
    try clear p2
    try clear c3
    try clear c5
    try clear c5b0
    try clear c5b1
    try clear c6
    try clear c6b0
    try clear c6b1
    obtain ⟨x6_1, x7_1, x8_1, x9_1, rfl, rfl, HA, HK1, HO_5, HO_6, HO_8, HB⟩ := hrel
    cases gk with
    | zero => exact absurd HA.out (by simp [barrowref01_sweep.l0])
    | succ k1 =>
     have H := HA.out
     clear HA
     simp only [barrowref01_sweep.l0] at H
     by_cases c12 : x9_1 < (t190.length : Int)
     ·rw [if_pos c12] at H
      have c12b0 : decide (x9_1 < (t190.length : Int)) = true := decide_eq_true c12
      clear c12
      by_cases c13 : 0 ≤ x9_1
      ·rw [if_pos c13] at H
       have c13b0 : decide (0 ≤ x9_1) = true := decide_eq_true c13
       clear c13
       have H' := Aside0.mk H
       clear H
       obtain ⟨Ao14, co14, eo14⟩ := Kd.V_slice HO_5.out
       subst eo14
       have p196 : 0 ≤ (x9_1 : Int) := of_decide_eq_true (by first | (with_reducible assumption) | assumption)
       have q196 : x9_1 < (t190.length : Int) := of_decide_eq_true (by first | (with_reducible assumption) | assumption)
       obtain ⟨ad196, e196, hx196_0, hx196_1, hx196_2⟩ := at_T76 (Kd.V_reads' HO_5.out).2.2 x9_1 p196 q196
       cases e196
       replace p196 := eq_true p196
       replace q196 := eq_true q196
       go_wp2
       go_loopg [7, 9] k1 (fun kq v7 v9 w' => ∃ (x6_2 : List Int) (x7_2 : Int) (x9_2 : Int), v7 = .int .i64 x7_2 ∧ v9 = .int .i64 x9_2 ∧ Aside0 (barrowref01_sweep.l1 kq l0 a1 t190 x6_2 x7_2 x8_1 x9_2 ((rd_T76 t190 x9_1).f0) = some r) ∧ Aside0 (kq ≤ k1) ∧ Aside0 (Kd.V k76 76 w' w.heap.size (fun k_ => some k_ ≠ (v194 : Value).ownBlock ∧ some k_ ≠ (u8 : Value).ownBlock) (.slice (some ad196) t190.length co14) t190) ∧ Aside0 (Kd.R (Kd.int .i64) 3 w' w.heap.size (fun _ => True) v194 x6_2) ∧ Aside0 (Kd.R k32 32 w' w.heap.size (fun _ => True) u8 x8_1) ∧ Aside0 (Below w.heap.size w w'))
       case atStart => exact ⟨(x6_1), (x7_1), (x9_1), (by first | rfl | (simp; done) | (simp [*]; done)), (by first | rfl | (simp; done) | (simp [*]; done)), H', ⟨Nat.le_refl _⟩, ⟨by (with_reducible repeat (first | apply Kd.V_alloc | apply Kd.V_drewN | apply Kd.V_drew)); exact HO_5.out⟩, ⟨by (with_reducible repeat (first | apply Kd.R_alloc | apply Kd.R_drewN | apply Kd.R_drew)); exact HO_6.out⟩, ⟨by (with_reducible repeat (first | apply Kd.R_alloc | apply Kd.R_drewN | apply Kd.R_drew)); exact HO_8.out⟩, ⟨by repeat (first | (with_reducible first | exact HB.out | apply below_alloc | apply pw_below_drewN | apply below_drew1) | exact HB.out)⟩⟩
       case round =>
        clear H'
        try clear c1
        try clear p1
        try clear q1
        try clear hx1
        try clear c2
        try clear p2
        try clear c3
        try clear c5
        try clear c5b0
        try clear c5b1
        try clear c6
        try clear c6b0
        try clear c6b1
        try clear c12
        try clear c12b0
        try clear c13
        try clear c13b0
        try clear hx196_0
        try clear hx196_1
        try clear hx196_2
        try clear p196
        try clear p2
        try clear q196
        obtain ⟨x6_2, x7_2, x9_2, rfl, rfl, HA, HK2, HO_5, HO_6, HO_8, HB⟩ := hrel
        cases gk with
        | zero => exact absurd HA.out (by simp [barrowref01_sweep.l1])
        | succ k2 =>
         have H := HA.out
         clear HA
         simp only [barrowref01_sweep.l1] at H
         have HC15 := Aside0.mk H
         clear H
         go_upto_region 9 with (fail)
         go_cut [42] (fun v42 wc => ∃ (kq : Nat) (x42_14 : Bool), v42 = .bool x42_14 ∧ Aside0 (barrowref01_sweep.j2 kq l0 a1 t190 x6_2 x7_2 x8_1 x9_2 ((rd_T76 t190 x9_1).f0) x42_14 = some r) ∧ Aside0 (kq ≤ k2) ∧ Aside0 (Kd.V k76 76 wc w.heap.size (fun k_ => some k_ ≠ (v194 : Value).ownBlock ∧ some k_ ≠ (u8 : Value).ownBlock) (.slice (some ad196) t190.length co14) t190) ∧ Aside0 (Kd.R (Kd.int .i64) 3 wc w.heap.size (fun _ => True) v194 x6_2) ∧ Aside0 (Kd.R k32 32 wc w.heap.size (fun _ => True) u8 x8_1) ∧ Aside0 (Below w.heap.size w wc))
         case first =>
          have H := HC15.out
          clear HC15
          by_cases c16 : x9_2 < (t190.length : Int)
          ·rw [if_pos c16] at H
           have c16b0 : decide (x9_2 < (t190.length : Int)) = true := decide_eq_true c16
           clear c16
           (first | rw [c16b0] | (simp only [i64_w, i32_w]; rw [c16b0]) | skip)
           by_cases c17 : 0 ≤ x9_2
           ·rw [if_pos c17] at H
            have c17b0 : decide (0 ≤ x9_2) = true := decide_eq_true c17
            clear c17
            have H' := Aside0.mk H
            clear H
            have p197 : 0 ≤ (x9_2 : Int) := of_decide_eq_true (by first | (with_reducible assumption) | assumption)
            have q197 : x9_2 < (t190.length : Int) := of_decide_eq_true (by first | (with_reducible assumption) | assumption)
            obtain ⟨ad197, e197, hx197_0, hx197_1, hx197_2⟩ := at_T76 (Kd.V_reads' HO_5.out).2.2 x9_2 p197 q197
            obtain rfl : ad196 = ad197 := (by injection e197)
            replace p197 := eq_true p197
            replace q197 := eq_true q197
            go_wp2
            go_meet
            case rel => exact ⟨_, ((((rd_T76 t190 x9_2).f0) == ((rd_T76 t190 x9_1).f0))), (by first | rfl | (simp; done) | (simp [*]; done)), H', ⟨by have := HK1.out; have := HK2.out; first | omega | exact Nat.le_refl _⟩, ⟨by (with_reducible repeat (first | apply Kd.V_alloc | apply Kd.V_drewN | apply Kd.V_drew)); exact HO_5.out⟩, ⟨by (with_reducible repeat (first | apply Kd.R_alloc | apply Kd.R_drewN | apply Kd.R_drew)); exact HO_6.out⟩, ⟨by (with_reducible repeat (first | apply Kd.R_alloc | apply Kd.R_drewN | apply Kd.R_drew)); exact HO_8.out⟩, ⟨by repeat (first | (with_reducible first | exact HB.out | apply below_alloc | apply pw_below_drewN | apply below_drew1) | exact HB.out)⟩⟩
           ·rw [if_neg c17] at H
            exact absurd H (by simp)
          ·rw [if_neg c16] at H
           have c16b0 : decide (x9_2 < (t190.length : Int)) = false := decide_eq_false c16
           clear c16
           (first | rw [c16b0] | (simp only [i64_w, i32_w]; rw [c16b0]) | skip)
           have H' := Aside0.mk H
           clear H
           go_wp2
           go_meet
           case rel => exact ⟨_, (false), (by first | rfl | (simp; done) | (simp [*]; done)), H', ⟨by have := HK1.out; have := HK2.out; first | omega | exact Nat.le_refl _⟩, ⟨by (with_reducible repeat (first | apply Kd.V_alloc | apply Kd.V_drewN | apply Kd.V_drew)); exact HO_5.out⟩, ⟨by (with_reducible repeat (first | apply Kd.R_alloc | apply Kd.R_drewN | apply Kd.R_drew)); exact HO_6.out⟩, ⟨by (with_reducible repeat (first | apply Kd.R_alloc | apply Kd.R_drewN | apply Kd.R_drew)); exact HO_8.out⟩, ⟨by repeat (first | (with_reducible first | exact HB.out | apply below_alloc | apply pw_below_drewN | apply below_drew1) | exact HB.out)⟩⟩
         case rest =>
          clear HC15
          try clear c1
          try clear p1
          try clear q1
          try clear hx1
          try clear c2
          try clear p2
          try clear c3
          try clear c5
          try clear c5b0
          try clear c5b1
          try clear c6
          try clear c6b0
          try clear c6b1
          try clear c12
          try clear c12b0
          try clear c13
          try clear c13b0
          try clear c16
          try clear c16b0
          try clear c17
          try clear c17b0
          try clear hx196_0
          try clear hx196_1
          try clear hx196_2
          try clear hx197_0
          try clear hx197_1
          try clear hx197_2
          try clear p1
          try clear p196
          try clear p197
          try clear p2
          try clear q1
          try clear q196
          try clear q197
          obtain ⟨kq, x42_14, rfl, HA, HJ14, HO_5, HO_6, HO_8, HB⟩ := hcut
          cases kq with
          | zero => exact absurd HA.out (by simp [barrowref01_sweep.j2])
          | succ kj14 =>
           have H := HA.out
           clear HA
           simp only [barrowref01_sweep.j2] at H
           by_cases c18 : x42_14 = true
           ·subst c18
            have H1 : (if 0 ≤ x9_2 then (if x9_2 < (t190.length : Int) then (if 0 ≤ ((rd_T76 t190 x9_2).f1) then (if ((rd_T76 t190 x9_2).f1) < (x6_2.length : Int) then (if (rd x6_2 ((rd_T76 t190 x9_2).f1)) > 0 then ((some (x6_2.set (((rd_T76 t190 x9_2).f1) : Int).toNat (wrap64 ((rd x6_2 ((rd_T76 t190 x9_2).f1)) + ((rd_T76 t190 x9_2).f2))) : List Int)).bind fun y202 => (if (wrap64 ((rd x6_2 ((rd_T76 t190 x9_2).f1)) + ((rd_T76 t190 x9_2).f2))) > 0 then (barrowref01_sweep.l1 kj14 l0 a1 t190 y202 (wrap64 ((wrap64 (x7_2 - 1)) + 1)) x8_1 (wrap64 (x9_2 + 1)) ((rd_T76 t190 x9_1).f0)) else (barrowref01_sweep.l1 kj14 l0 a1 t190 y202 (wrap64 (x7_2 - 1)) x8_1 (wrap64 (x9_2 + 1)) ((rd_T76 t190 x9_1).f0)))) else ((some (x6_2.set (((rd_T76 t190 x9_2).f1) : Int).toNat (wrap64 ((rd x6_2 ((rd_T76 t190 x9_2).f1)) + ((rd_T76 t190 x9_2).f2))) : List Int)).bind fun y206 => (if (wrap64 ((rd x6_2 ((rd_T76 t190 x9_2).f1)) + ((rd_T76 t190 x9_2).f2))) > 0 then (barrowref01_sweep.l1 kj14 l0 a1 t190 y206 (wrap64 (x7_2 + 1)) x8_1 (wrap64 (x9_2 + 1)) ((rd_T76 t190 x9_1).f0)) else (barrowref01_sweep.l1 kj14 l0 a1 t190 y206 x7_2 x8_1 (wrap64 (x9_2 + 1)) ((rd_T76 t190 x9_1).f0))))) else (none)) else (none)) else (none)) else (none)) = some r := by rw [if_pos rfl] at H; exact H
            clear H
            have H := H1
            clear H1
            by_cases c19 : 0 ≤ x9_2
            ·rw [if_pos c19] at H
             have c19b0 : decide (0 ≤ x9_2) = true := decide_eq_true c19
             clear c19
             by_cases c20 : x9_2 < (t190.length : Int)
             ·rw [if_pos c20] at H
              have c20b0 : decide (x9_2 < (t190.length : Int)) = true := decide_eq_true c20
              clear c20
              by_cases c21 : 0 ≤ ((rd_T76 t190 x9_2).f1)
              ·rw [if_pos c21] at H
               have c21b0 : decide (0 ≤ ((rd_T76 t190 x9_2).f1)) = true := decide_eq_true c21
               clear c21
               by_cases c22 : ((rd_T76 t190 x9_2).f1) < (x6_2.length : Int)
               ·rw [if_pos c22] at H
                have c22b0 : decide (((rd_T76 t190 x9_2).f1) < (x6_2.length : Int)) = true := decide_eq_true c22
                clear c22
                by_cases c23 : (rd x6_2 ((rd_T76 t190 x9_2).f1)) > 0
                ·rw [if_pos c23] at H
                 have c23b0 : decide (0 < (rd x6_2 ((rd_T76 t190 x9_2).f1))) = true := decide_eq_true c23
                 clear c23
                 obtain ⟨y202, hy202⟩ : ∃ y_ : List Int, y_ = (x6_2.set (((rd_T76 t190 x9_2).f1) : Int).toNat (wrap64 ((rd x6_2 ((rd_T76 t190 x9_2).f1)) + ((rd_T76 t190 x9_2).f2)))) := ⟨_, rfl⟩
                 replace H : (if (wrap64 ((rd x6_2 ((rd_T76 t190 x9_2).f1)) + ((rd_T76 t190 x9_2).f2))) > 0 then (barrowref01_sweep.l1 kj14 l0 a1 t190 y202 (wrap64 ((wrap64 (x7_2 - 1)) + 1)) x8_1 (wrap64 (x9_2 + 1)) ((rd_T76 t190 x9_1).f0)) else (barrowref01_sweep.l1 kj14 l0 a1 t190 y202 (wrap64 (x7_2 - 1)) x8_1 (wrap64 (x9_2 + 1)) ((rd_T76 t190 x9_1).f0))) = some r := by first | (rw [hy202]; with_reducible exact H) | (have H2_ := (Option.bind_some _ _).symm.trans H; rw [hy202]; with_reducible exact H2_) | (have H2_ := (Option.bind_some _ _).symm.trans H; with_reducible exact H2_) | with_reducible exact H | (rw [hy202]; exact H) | exact H
                 have Ny202 := Aside0.mk hy202
                 clear hy202
                 by_cases c26 : (wrap64 ((rd x6_2 ((rd_T76 t190 x9_2).f1)) + ((rd_T76 t190 x9_2).f2))) > 0
                 ·rw [if_pos c26] at H
                  have c26b0 : decide (0 < (wrap64 ((rd x6_2 ((rd_T76 t190 x9_2).f1)) + ((rd_T76 t190 x9_2).f2)))) = true := decide_eq_true c26
                  clear c26
                  have H' := Aside0.mk H
                  clear H
                  have p198 : 0 ≤ (x9_2 : Int) := of_decide_eq_true (by first | (with_reducible assumption) | assumption)
                  have q198 : x9_2 < (t190.length : Int) := of_decide_eq_true (by first | (with_reducible assumption) | assumption)
                  obtain ⟨ad198, e198, hx198_0, hx198_1, hx198_2⟩ := at_T76 (Kd.V_reads' HO_5.out).2.2 x9_2 p198 q198
                  obtain rfl : ad196 = ad198 := (by injection e198)
                  replace p198 := eq_true p198
                  replace q198 := eq_true q198
                  obtain ⟨Ao27, co27, eo27⟩ := Kd.R_slice HO_6.out
                  subst eo27
                  have p199 : 0 ≤ (((rd_T76 t190 x9_2).f1) : Int) := of_decide_eq_true (by first | (with_reducible assumption) | assumption)
                  have q199 : ((rd_T76 t190 x9_2).f1) < (x6_2.length : Int) := of_decide_eq_true (by first | (with_reducible assumption) | assumption)
                  obtain ⟨ad199, e199, hx199_0⟩ := Kd.at_int (Kd.R_reads' HO_6.out).2.2 ((rd_T76 t190 x9_2).f1) p199 q199
                  cases e199
                  replace p199 := eq_true p199
                  replace q199 := eq_true q199
                  try go_wp2
                  have n0_ := Aside0.mk (Kd.V_drew HO_5.out)
                  have n1_ := Aside0.mk (Kd.R_drew HO_6.out)
                  have n2_ := Aside0.mk (Kd.R_drew HO_8.out)
                  have n3_ := Aside0.mk (below_drew1 HB.out)
                  clear HO_5
                  clear HO_6
                  clear HO_8
                  clear HB
                  have HO_5 := n0_
                  have HO_6 := n1_
                  have HO_8 := n2_
                  have HB := n3_
                  clear n0_ n1_ n2_ n3_
                  have p200 : 0 ≤ (((rd_T76 t190 x9_2).f1) : Int) := of_decide_eq_true (by first | (with_reducible assumption) | assumption)
                  have q200 : ((rd_T76 t190 x9_2).f1) < (x6_2.length : Int) := of_decide_eq_true (by first | (with_reducible assumption) | assumption)
                  obtain ⟨ad200, e200, hx200_0⟩ := Kd.at_int (Kd.R_reads' HO_6.out).2.2 ((rd_T76 t190 x9_2).f1) p200 q200
                  obtain rfl : ad199 = ad200 := (by injection e200)
                  replace p200 := eq_true p200
                  replace q200 := eq_true q200
                  have p201 : 0 ≤ (x9_2 : Int) := of_decide_eq_true (by first | (with_reducible assumption) | assumption)
                  have q201 : x9_2 < (t190.length : Int) := of_decide_eq_true (by first | (with_reducible assumption) | assumption)
                  obtain ⟨ad201, e201, hx201_0, hx201_1, hx201_2⟩ := at_T76 (Kd.V_reads' HO_5.out).2.2 x9_2 p201 q201
                  obtain rfl : ad196 = ad201 := (by injection e201)
                  replace p201 := eq_true p201
                  replace q201 := eq_true q201
                  have p24 : 0 ≤ (((rd_T76 t190 x9_2).f1) : Int) := of_decide_eq_true (by first | (with_reducible assumption) | assumption)
                  have q24 : (((rd_T76 t190 x9_2).f1) : Int) < ((x6_2.length : Int) : Int) := of_decide_eq_true (by first | (with_reducible assumption) | assumption)
                  obtain ⟨go24, co24, eo24, gb24, gl24, cl24, HG24⟩ := Kd.R_form HO_6.out (by omega)
                  (first | cases eo24 | (injection eo24 with ea_ en_ ec_; (first | subst ea_ | (injection ea_ with ea_; subst ea_)); subst ec_; clear en_))
                  have GB24 := Aside0.mk gb24
                  have GG24 := Aside0.mk HG24
                  clear gb24 gl24 HG24
                  (first | simp only [add_plain] at hx199_0 | skip)
                  (first | simp only [add_plain] at hx200_0 | skip)
                  obtain ⟨hx24_0, hf24_0⟩ := Kd.R_celln 0 HO_6.out (((rd_T76 t190 x9_2).f1) : Int) p24 q24
                  replace p24 := eq_true p24
                  replace q24 := eq_true q24
                  have HP29 := Kd.R_putn HO_6.out (((rd_T76 t190 x9_2).f1) : Int) (wrap64 ((rd x6_2 ((rd_T76 t190 x9_2).f1)) + ((rd_T76 t190 x9_2).f2)))
                  rw [← Ny202.out] at HP29
                  have HQ29 := Aside0.mk HP29
                  clear HP29
                  refine start_ (n := 14) (S := fun w' => w'.cell? ⟨go24, (((rd_T76 t190 x9_2).f1)).toNat, none⟩ = some (.int .i64 (rd x6_2 ((rd_T76 t190 x9_2).f1))) ∧ w'.cell? (ad196.add ((x9_2).toNat * 3)) = some (.int .i64 ((rd_T76 t190 x9_2).f0)) ∧ w'.cell? ⟨(ad196.add ((x9_2).toNat * 3)).block, (ad196.add ((x9_2).toNat * 3)).off + 1, none⟩ = some (.int .i64 ((rd_T76 t190 x9_2).f1)) ∧ w'.cell? ⟨(ad196.add ((x9_2).toNat * 3)).block, (ad196.add ((x9_2).toNat * 3)).off + 2, none⟩ = some (.int .i64 ((rd_T76 t190 x9_2).f2))) (ds := [13]) #[false, false, false, false, false, false, false, false, false, false, false, false, false, false] (by kernel_rfl) rfl rfl ⟨hx200_0, hx201_0, hx201_1, hx201_2⟩ (fun hHeld => ?_); refine with_tabW barrowref01_sweep.tab13 barrowref01_sweep.bits13 (fun HT_ HW_ => ?_)
                  generalize wc.drew = w28 at HO_5 HO_6 HO_8 HB GG24 HQ29 hf24_0 hx199_0 hx200_0 hx201_0 hx201_1 hx201_2 hx24_0 hHeld ⊢
                  refine pure_ (i := 0) (N := some 55) (v := ?_) (a' := ?_) #[true, false, false, false, false, false, false, false, false, false, false, false, false, false] rfl rfl (any_of HT_.out (by kernel_rfl)) (fun _ _ _ h => h) (Or.inl ⟨by rfl, ?_⟩) ?_ ?_
                  rotate_left
                  ·intro w'
                   go_simp
                   with_reducible rfl
                  rotate_left
                  ·simp only [Act.put, List.setIfInBounds_toArray, List.set_cons_zero, List.set_cons_succ, i64_w, i32_w]
                   rfl
                  refine pure_ (i := 1) (N := some 56) (v := ?_) (a' := ?_) #[true, true, false, false, false, false, false, false, false, false, false, false, false, false] rfl rfl (any_of HT_.out (by kernel_rfl)) (fun _ _ _ h => h) (Or.inl ⟨by rfl, ?_⟩) ?_ ?_
                  rotate_left
                  ·intro w'
                   go_simp
                   with_reducible rfl
                  rotate_left
                  ·simp only [Act.put, List.setIfInBounds_toArray, List.set_cons_zero, List.set_cons_succ, i64_w, i32_w]
                   rfl
                  refine pure_ (i := 2) (N := some 57) (v := ?_) (a' := ?_) #[true, true, true, false, false, false, false, false, false, false, false, false, false, false] rfl rfl (any_of HT_.out (by kernel_rfl)) (fun _ _ _ h => h) (Or.inl ⟨by rfl, ?_⟩) ?_ ?_
                  rotate_left
                  ·intro w'
                   go_simp
                   with_reducible rfl
                  rotate_left
                  ·simp only [Act.put, List.setIfInBounds_toArray, List.set_cons_zero, List.set_cons_succ, i64_w, i32_w]
                   rfl
                  refine pure_ (i := 3) (N := some 58) (v := ?_) (a' := ?_) #[true, true, true, true, false, false, false, false, false, false, false, false, false, false] rfl rfl (any_of HT_.out (by kernel_rfl)) (fun _ _ _ h => h) (Or.inl ⟨by rfl, ?_⟩) ?_ ?_
                  rotate_left
                  ·intro w'
                   go_simp
                   with_reducible rfl
                  rotate_left
                  ·simp only [Act.put, List.setIfInBounds_toArray, List.set_cons_zero, List.set_cons_succ, i64_w, i32_w]
                   rfl
                  refine pure_ (i := 4) (N := some 59) (v := ?_) (a' := ?_) #[true, true, true, true, true, false, false, false, false, false, false, false, false, false] rfl rfl (any_of HT_.out (by kernel_rfl)) (fun _ _ _ h => h) (Or.inl ⟨by rfl, ?_⟩) ?_ ?_
                  rotate_left
                  ·intro w'
                   go_simp
                   with_reducible rfl
                  rotate_left
                  ·simp only [Act.put, List.setIfInBounds_toArray, List.set_cons_zero, List.set_cons_succ, i64_w, i32_w]
                   rfl
                  refine pure_ (i := 6) (N := some 61) (v := ?_) (a' := ?_) #[true, true, true, true, true, false, true, false, false, false, false, false, false, false] rfl rfl (any_of HT_.out (by kernel_rfl)) (fun _ _ _ h => h) (Or.inl ⟨by rfl, ?_⟩) ?_ ?_
                  rotate_left
                  ·intro w'
                   go_simp
                   with_reducible rfl
                  rotate_left
                  ·simp only [Act.put, List.setIfInBounds_toArray, List.set_cons_zero, List.set_cons_succ, i64_w, i32_w]
                   rfl
                  refine pure_ (i := 7) (N := some 62) (v := ?_) (a' := ?_) #[true, true, true, true, true, false, true, true, false, false, false, false, false, false] rfl rfl (any_of HT_.out (by kernel_rfl)) (fun _ _ _ h => h) (Or.inl ⟨by rfl, ?_⟩) ?_ ?_
                  rotate_left
                  ·intro w'
                   go_simp
                   with_reducible rfl
                  rotate_left
                  ·simp only [Act.put, List.setIfInBounds_toArray, List.set_cons_zero, List.set_cons_succ, i64_w, i32_w]
                   rfl
                  refine pure_ (i := 8) (N := some 63) (v := ?_) (a' := ?_) #[true, true, true, true, true, false, true, true, true, false, false, false, false, false] rfl rfl (any_of HT_.out (by kernel_rfl)) (fun _ _ _ h => h) (Or.inl ⟨by rfl, ?_⟩) ?_ ?_
                  rotate_left
                  ·intro w'
                   go_simp
                   with_reducible rfl
                  rotate_left
                  ·simp only [Act.put, List.setIfInBounds_toArray, List.set_cons_zero, List.set_cons_succ, i64_w, i32_w]
                   rfl
                  refine pure_ (i := 9) (N := some 64) (v := ?_) (a' := ?_) #[true, true, true, true, true, false, true, true, true, true, false, false, false, false] rfl rfl (any_of HT_.out (by kernel_rfl)) (fun _ _ _ h => h) (Or.inl ⟨by rfl, ?_⟩) ?_ ?_
                  rotate_left
                  ·intro w'
                   go_simp
                   with_reducible rfl
                  rotate_left
                  ·simp only [Act.put, List.setIfInBounds_toArray, List.set_cons_zero, List.set_cons_succ, i64_w, i32_w]
                   rfl
                  refine take_ (i := 5) (N := some 60) (v := ?_) (a' := ?_) #[true, true, true, true, true, true, true, true, true, true, false, false, false, false] rfl rfl (take_ofW HT_.out HW_.out (by kernel_rfl)) (fun _ _ _ h => h) (Or.inl ⟨by rfl, ?_⟩) hHeld ?_ ?_
                  rotate_left
                  ·rintro w' ⟨s0, s1, s2, s3⟩
                   go_simp
                   with_reducible rfl
                  rotate_left
                  ·simp only [Act.put, List.setIfInBounds_toArray, List.set_cons_zero, List.set_cons_succ, i64_w, i32_w]
                   rfl
                  refine take_ (i := 10) (N := some 65) (v := ?_) (a' := ?_) #[true, true, true, true, true, true, true, true, true, true, true, false, false, false] rfl rfl (take_ofW HT_.out HW_.out (by kernel_rfl)) (fun _ _ _ h => h) (Or.inl ⟨by rfl, ?_⟩) hHeld ?_ ?_
                  rotate_left
                  ·rintro w' ⟨s0, s1, s2, s3⟩
                   go_simp
                   with_reducible rfl
                  rotate_left
                  ·simp only [Act.put, List.setIfInBounds_toArray, List.set_cons_zero, List.set_cons_succ, i64_w, i32_w]
                   rfl
                  refine pure_ (i := 11) (N := some 66) (v := ?_) (a' := ?_) #[true, true, true, true, true, true, true, true, true, true, true, true, false, false] rfl rfl (any_of HT_.out (by kernel_rfl)) (fun _ _ _ h => h) (Or.inl ⟨by rfl, ?_⟩) ?_ ?_
                  rotate_left
                  ·intro w'
                   go_simp
                   with_reducible rfl
                  rotate_left
                  ·simp only [Act.put, List.setIfInBounds_toArray, List.set_cons_zero, List.set_cons_succ, i64_w, i32_w]
                   rfl
                  refine pure_ (i := 12) (N := some 67) (v := ?_) (a' := ?_) #[true, true, true, true, true, true, true, true, true, true, true, true, true, false] rfl rfl (any_of HT_.out (by kernel_rfl)) (fun _ _ _ h => h) (Or.inl ⟨by rfl, ?_⟩) ?_ ?_
                  rotate_left
                  ·intro w'
                   go_simp
                   with_reducible rfl
                  rotate_left
                  ·simp only [Act.put, List.setIfInBounds_toArray, List.set_cons_zero, List.set_cons_succ, i64_w, i32_w]
                   rfl
                  refine last_ (i := 13) (N := none) #[true, true, true, true, true, true, true, true, true, true, true, true, true, true] rfl rfl (one_of HT_.out (by kernel_rfl)) (by decide) (fun K hK => ?_)
                  refine skip_ (w1 := ?_) (by rfl) rfl ?_ ?_
                  rotate_left
                  ·go_simp
                   rfl
                  refine hK.out _ _ ?_
                  clear hK K
                  refine done_ (done_of HT_.out (by kernel_rfl)) ?_
                  have p25 : 0 ≤ (((rd_T76 t190 x9_2).f1) : Int) := of_decide_eq_true (by first | (with_reducible assumption) | assumption)
                  have q25 : (((rd_T76 t190 x9_2).f1) : Int) < ((x6_2.length : Int) : Int) := of_decide_eq_true (by first | (with_reducible assumption) | assumption)
                  replace p25 := eq_true p25
                  replace q25 := eq_true q25
                  try go_wp2
                  go_roundg kj14
                  case measure => have := HK1.out; have := HK2.out; have := HJ14.out; omega
                  case rel => exact ⟨(y202), (wrap64 ((wrap64 (x7_2 - 1)) + 1)), (wrap64 (x9_2 + 1)), (by first | rfl | (simp; done) | (simp [*]; done)), (by first | rfl | (simp; done) | (simp [*]; done)), H', ⟨by have := HK1.out; have := HK2.out; have := HJ14.out; omega⟩, ⟨by (with_reducible repeat (first | apply Kd.V_alloc | apply Kd.V_drewN | apply Kd.V_drew)); exact Kd.V_mono (Kd.V_far (p := ⟨go24, (((rd_T76 t190 x9_2).f1) : Int).toNat, none⟩) (Kd.V_mono HO_5.out (fun k_ hk => (⟨hk, fun e_ => hk.1 (by rw [e_]; rfl)⟩ : _ ∧ k_ ≠ go24))) (fun _ hk => hk.2) (.int .i64 (wrap64 ((rd x6_2 ((rd_T76 t190 x9_2).f1)) + ((rd_T76 t190 x9_2).f2))))) (fun _ hk => ⟨hk.1.1, hk.1.2⟩)⟩, ⟨by (with_reducible repeat (first | apply Kd.R_alloc | apply Kd.R_drewN | apply Kd.R_drew)); exact HQ29.out⟩, ⟨by (with_reducible repeat (first | apply Kd.R_alloc | apply Kd.R_drewN | apply Kd.R_drew)); exact Kd.R_mono (Kd.R_far (p := ⟨go24, (((rd_T76 t190 x9_2).f1) : Int).toNat, none⟩) (Kd.R_types HO_8.out GG24.out (by decide)) (fun _ hk => hk.2) (.int .i64 (wrap64 ((rd x6_2 ((rd_T76 t190 x9_2).f1)) + ((rd_T76 t190 x9_2).f2))))) (fun _ hk => trivial)⟩, ⟨by repeat (first | (with_reducible first | exact HB.out | apply below_alloc | apply pw_below_drewN | apply below_drew1 | refine below_set ?_ GB24.out) | exact HB.out)⟩⟩
                 ·rw [if_neg c26] at H
                  have c26b0 : decide (0 < (wrap64 ((rd x6_2 ((rd_T76 t190 x9_2).f1)) + ((rd_T76 t190 x9_2).f2)))) = false := decide_eq_false c26
                  clear c26
                  have H' := Aside0.mk H
                  clear H
                  have p198 : 0 ≤ (x9_2 : Int) := of_decide_eq_true (by first | (with_reducible assumption) | assumption)
                  have q198 : x9_2 < (t190.length : Int) := of_decide_eq_true (by first | (with_reducible assumption) | assumption)
                  obtain ⟨ad198, e198, hx198_0, hx198_1, hx198_2⟩ := at_T76 (Kd.V_reads' HO_5.out).2.2 x9_2 p198 q198
                  obtain rfl : ad196 = ad198 := (by injection e198)
                  replace p198 := eq_true p198
                  replace q198 := eq_true q198
                  obtain ⟨Ao30, co30, eo30⟩ := Kd.R_slice HO_6.out
                  subst eo30
                  have p199 : 0 ≤ (((rd_T76 t190 x9_2).f1) : Int) := of_decide_eq_true (by first | (with_reducible assumption) | assumption)
                  have q199 : ((rd_T76 t190 x9_2).f1) < (x6_2.length : Int) := of_decide_eq_true (by first | (with_reducible assumption) | assumption)
                  obtain ⟨ad199, e199, hx199_0⟩ := Kd.at_int (Kd.R_reads' HO_6.out).2.2 ((rd_T76 t190 x9_2).f1) p199 q199
                  cases e199
                  replace p199 := eq_true p199
                  replace q199 := eq_true q199
                  try go_wp2
                  have n0_ := Aside0.mk (Kd.V_drew HO_5.out)
                  have n1_ := Aside0.mk (Kd.R_drew HO_6.out)
                  have n2_ := Aside0.mk (Kd.R_drew HO_8.out)
                  have n3_ := Aside0.mk (below_drew1 HB.out)
                  clear HO_5
                  clear HO_6
                  clear HO_8
                  clear HB
                  have HO_5 := n0_
                  have HO_6 := n1_
                  have HO_8 := n2_
                  have HB := n3_
                  clear n0_ n1_ n2_ n3_
                  have p200 : 0 ≤ (((rd_T76 t190 x9_2).f1) : Int) := of_decide_eq_true (by first | (with_reducible assumption) | assumption)
                  have q200 : ((rd_T76 t190 x9_2).f1) < (x6_2.length : Int) := of_decide_eq_true (by first | (with_reducible assumption) | assumption)
                  obtain ⟨ad200, e200, hx200_0⟩ := Kd.at_int (Kd.R_reads' HO_6.out).2.2 ((rd_T76 t190 x9_2).f1) p200 q200
                  obtain rfl : ad199 = ad200 := (by injection e200)
                  replace p200 := eq_true p200
                  replace q200 := eq_true q200
                  have p201 : 0 ≤ (x9_2 : Int) := of_decide_eq_true (by first | (with_reducible assumption) | assumption)
                  have q201 : x9_2 < (t190.length : Int) := of_decide_eq_true (by first | (with_reducible assumption) | assumption)
                  obtain ⟨ad201, e201, hx201_0, hx201_1, hx201_2⟩ := at_T76 (Kd.V_reads' HO_5.out).2.2 x9_2 p201 q201
                  obtain rfl : ad196 = ad201 := (by injection e201)
                  replace p201 := eq_true p201
                  replace q201 := eq_true q201
                  have p24 : 0 ≤ (((rd_T76 t190 x9_2).f1) : Int) := of_decide_eq_true (by first | (with_reducible assumption) | assumption)
                  have q24 : (((rd_T76 t190 x9_2).f1) : Int) < ((x6_2.length : Int) : Int) := of_decide_eq_true (by first | (with_reducible assumption) | assumption)
                  obtain ⟨go24, co24, eo24, gb24, gl24, cl24, HG24⟩ := Kd.R_form HO_6.out (by omega)
                  (first | cases eo24 | (injection eo24 with ea_ en_ ec_; (first | subst ea_ | (injection ea_ with ea_; subst ea_)); subst ec_; clear en_))
                  have GB24 := Aside0.mk gb24
                  have GG24 := Aside0.mk HG24
                  clear gb24 gl24 HG24
                  (first | simp only [add_plain] at hx199_0 | skip)
                  (first | simp only [add_plain] at hx200_0 | skip)
                  obtain ⟨hx24_0, hf24_0⟩ := Kd.R_celln 0 HO_6.out (((rd_T76 t190 x9_2).f1) : Int) p24 q24
                  replace p24 := eq_true p24
                  replace q24 := eq_true q24
                  have HP32 := Kd.R_putn HO_6.out (((rd_T76 t190 x9_2).f1) : Int) (wrap64 ((rd x6_2 ((rd_T76 t190 x9_2).f1)) + ((rd_T76 t190 x9_2).f2)))
                  rw [← Ny202.out] at HP32
                  have HQ32 := Aside0.mk HP32
                  clear HP32
                  refine start_ (n := 14) (S := fun w' => w'.cell? ⟨go24, (((rd_T76 t190 x9_2).f1)).toNat, none⟩ = some (.int .i64 (rd x6_2 ((rd_T76 t190 x9_2).f1))) ∧ w'.cell? (ad196.add ((x9_2).toNat * 3)) = some (.int .i64 ((rd_T76 t190 x9_2).f0)) ∧ w'.cell? ⟨(ad196.add ((x9_2).toNat * 3)).block, (ad196.add ((x9_2).toNat * 3)).off + 1, none⟩ = some (.int .i64 ((rd_T76 t190 x9_2).f1)) ∧ w'.cell? ⟨(ad196.add ((x9_2).toNat * 3)).block, (ad196.add ((x9_2).toNat * 3)).off + 2, none⟩ = some (.int .i64 ((rd_T76 t190 x9_2).f2))) (ds := [13]) #[false, false, false, false, false, false, false, false, false, false, false, false, false, false] (by kernel_rfl) rfl rfl ⟨hx200_0, hx201_0, hx201_1, hx201_2⟩ (fun hHeld => ?_); refine with_tabW barrowref01_sweep.tab13 barrowref01_sweep.bits13 (fun HT_ HW_ => ?_)
                  generalize wc.drew = w31 at HO_5 HO_6 HO_8 HB GG24 HQ32 hf24_0 hx199_0 hx200_0 hx201_0 hx201_1 hx201_2 hx24_0 hHeld ⊢
                  refine pure_ (i := 0) (N := some 55) (v := ?_) (a' := ?_) #[true, false, false, false, false, false, false, false, false, false, false, false, false, false] rfl rfl (any_of HT_.out (by kernel_rfl)) (fun _ _ _ h => h) (Or.inl ⟨by rfl, ?_⟩) ?_ ?_
                  rotate_left
                  ·intro w'
                   go_simp
                   with_reducible rfl
                  rotate_left
                  ·simp only [Act.put, List.setIfInBounds_toArray, List.set_cons_zero, List.set_cons_succ, i64_w, i32_w]
                   rfl
                  refine pure_ (i := 1) (N := some 56) (v := ?_) (a' := ?_) #[true, true, false, false, false, false, false, false, false, false, false, false, false, false] rfl rfl (any_of HT_.out (by kernel_rfl)) (fun _ _ _ h => h) (Or.inl ⟨by rfl, ?_⟩) ?_ ?_
                  rotate_left
                  ·intro w'
                   go_simp
                   with_reducible rfl
                  rotate_left
                  ·simp only [Act.put, List.setIfInBounds_toArray, List.set_cons_zero, List.set_cons_succ, i64_w, i32_w]
                   rfl
                  refine pure_ (i := 2) (N := some 57) (v := ?_) (a' := ?_) #[true, true, true, false, false, false, false, false, false, false, false, false, false, false] rfl rfl (any_of HT_.out (by kernel_rfl)) (fun _ _ _ h => h) (Or.inl ⟨by rfl, ?_⟩) ?_ ?_
                  rotate_left
                  ·intro w'
                   go_simp
                   with_reducible rfl
                  rotate_left
                  ·simp only [Act.put, List.setIfInBounds_toArray, List.set_cons_zero, List.set_cons_succ, i64_w, i32_w]
                   rfl
                  refine pure_ (i := 3) (N := some 58) (v := ?_) (a' := ?_) #[true, true, true, true, false, false, false, false, false, false, false, false, false, false] rfl rfl (any_of HT_.out (by kernel_rfl)) (fun _ _ _ h => h) (Or.inl ⟨by rfl, ?_⟩) ?_ ?_
                  rotate_left
                  ·intro w'
                   go_simp
                   with_reducible rfl
                  rotate_left
                  ·simp only [Act.put, List.setIfInBounds_toArray, List.set_cons_zero, List.set_cons_succ, i64_w, i32_w]
                   rfl
                  refine pure_ (i := 4) (N := some 59) (v := ?_) (a' := ?_) #[true, true, true, true, true, false, false, false, false, false, false, false, false, false] rfl rfl (any_of HT_.out (by kernel_rfl)) (fun _ _ _ h => h) (Or.inl ⟨by rfl, ?_⟩) ?_ ?_
                  rotate_left
                  ·intro w'
                   go_simp
                   with_reducible rfl
                  rotate_left
                  ·simp only [Act.put, List.setIfInBounds_toArray, List.set_cons_zero, List.set_cons_succ, i64_w, i32_w]
                   rfl
                  refine pure_ (i := 6) (N := some 61) (v := ?_) (a' := ?_) #[true, true, true, true, true, false, true, false, false, false, false, false, false, false] rfl rfl (any_of HT_.out (by kernel_rfl)) (fun _ _ _ h => h) (Or.inl ⟨by rfl, ?_⟩) ?_ ?_
                  rotate_left
                  ·intro w'
                   go_simp
                   with_reducible rfl
                  rotate_left
                  ·simp only [Act.put, List.setIfInBounds_toArray, List.set_cons_zero, List.set_cons_succ, i64_w, i32_w]
                   rfl
                  refine pure_ (i := 7) (N := some 62) (v := ?_) (a' := ?_) #[true, true, true, true, true, false, true, true, false, false, false, false, false, false] rfl rfl (any_of HT_.out (by kernel_rfl)) (fun _ _ _ h => h) (Or.inl ⟨by rfl, ?_⟩) ?_ ?_
                  rotate_left
                  ·intro w'
                   go_simp
                   with_reducible rfl
                  rotate_left
                  ·simp only [Act.put, List.setIfInBounds_toArray, List.set_cons_zero, List.set_cons_succ, i64_w, i32_w]
                   rfl
                  refine pure_ (i := 8) (N := some 63) (v := ?_) (a' := ?_) #[true, true, true, true, true, false, true, true, true, false, false, false, false, false] rfl rfl (any_of HT_.out (by kernel_rfl)) (fun _ _ _ h => h) (Or.inl ⟨by rfl, ?_⟩) ?_ ?_
                  rotate_left
                  ·intro w'
                   go_simp
                   with_reducible rfl
                  rotate_left
                  ·simp only [Act.put, List.setIfInBounds_toArray, List.set_cons_zero, List.set_cons_succ, i64_w, i32_w]
                   rfl
                  refine pure_ (i := 9) (N := some 64) (v := ?_) (a' := ?_) #[true, true, true, true, true, false, true, true, true, true, false, false, false, false] rfl rfl (any_of HT_.out (by kernel_rfl)) (fun _ _ _ h => h) (Or.inl ⟨by rfl, ?_⟩) ?_ ?_
                  rotate_left
                  ·intro w'
                   go_simp
                   with_reducible rfl
                  rotate_left
                  ·simp only [Act.put, List.setIfInBounds_toArray, List.set_cons_zero, List.set_cons_succ, i64_w, i32_w]
                   rfl
                  refine take_ (i := 5) (N := some 60) (v := ?_) (a' := ?_) #[true, true, true, true, true, true, true, true, true, true, false, false, false, false] rfl rfl (take_ofW HT_.out HW_.out (by kernel_rfl)) (fun _ _ _ h => h) (Or.inl ⟨by rfl, ?_⟩) hHeld ?_ ?_
                  rotate_left
                  ·rintro w' ⟨s0, s1, s2, s3⟩
                   go_simp
                   with_reducible rfl
                  rotate_left
                  ·simp only [Act.put, List.setIfInBounds_toArray, List.set_cons_zero, List.set_cons_succ, i64_w, i32_w]
                   rfl
                  refine take_ (i := 10) (N := some 65) (v := ?_) (a' := ?_) #[true, true, true, true, true, true, true, true, true, true, true, false, false, false] rfl rfl (take_ofW HT_.out HW_.out (by kernel_rfl)) (fun _ _ _ h => h) (Or.inl ⟨by rfl, ?_⟩) hHeld ?_ ?_
                  rotate_left
                  ·rintro w' ⟨s0, s1, s2, s3⟩
                   go_simp
                   with_reducible rfl
                  rotate_left
                  ·simp only [Act.put, List.setIfInBounds_toArray, List.set_cons_zero, List.set_cons_succ, i64_w, i32_w]
                   rfl
                  refine pure_ (i := 11) (N := some 66) (v := ?_) (a' := ?_) #[true, true, true, true, true, true, true, true, true, true, true, true, false, false] rfl rfl (any_of HT_.out (by kernel_rfl)) (fun _ _ _ h => h) (Or.inl ⟨by rfl, ?_⟩) ?_ ?_
                  rotate_left
                  ·intro w'
                   go_simp
                   with_reducible rfl
                  rotate_left
                  ·simp only [Act.put, List.setIfInBounds_toArray, List.set_cons_zero, List.set_cons_succ, i64_w, i32_w]
                   rfl
                  refine pure_ (i := 12) (N := some 67) (v := ?_) (a' := ?_) #[true, true, true, true, true, true, true, true, true, true, true, true, true, false] rfl rfl (any_of HT_.out (by kernel_rfl)) (fun _ _ _ h => h) (Or.inl ⟨by rfl, ?_⟩) ?_ ?_
                  rotate_left
                  ·intro w'
                   go_simp
                   with_reducible rfl
                  rotate_left
                  ·simp only [Act.put, List.setIfInBounds_toArray, List.set_cons_zero, List.set_cons_succ, i64_w, i32_w]
                   rfl
                  refine last_ (i := 13) (N := none) #[true, true, true, true, true, true, true, true, true, true, true, true, true, true] rfl rfl (one_of HT_.out (by kernel_rfl)) (by decide) (fun K hK => ?_)
                  refine skip_ (w1 := ?_) (by rfl) rfl ?_ ?_
                  rotate_left
                  ·go_simp
                   rfl
                  refine hK.out _ _ ?_
                  clear hK K
                  refine done_ (done_of HT_.out (by kernel_rfl)) ?_
                  have p25 : 0 ≤ (((rd_T76 t190 x9_2).f1) : Int) := of_decide_eq_true (by first | (with_reducible assumption) | assumption)
                  have q25 : (((rd_T76 t190 x9_2).f1) : Int) < ((x6_2.length : Int) : Int) := of_decide_eq_true (by first | (with_reducible assumption) | assumption)
                  replace p25 := eq_true p25
                  replace q25 := eq_true q25
                  try go_wp2
                  go_roundg kj14
                  case measure => have := HK1.out; have := HK2.out; have := HJ14.out; omega
                  case rel => exact ⟨(y202), (wrap64 (x7_2 - 1)), (wrap64 (x9_2 + 1)), (by first | rfl | (simp; done) | (simp [*]; done)), (by first | rfl | (simp; done) | (simp [*]; done)), H', ⟨by have := HK1.out; have := HK2.out; have := HJ14.out; omega⟩, ⟨by (with_reducible repeat (first | apply Kd.V_alloc | apply Kd.V_drewN | apply Kd.V_drew)); exact Kd.V_mono (Kd.V_far (p := ⟨go24, (((rd_T76 t190 x9_2).f1) : Int).toNat, none⟩) (Kd.V_mono HO_5.out (fun k_ hk => (⟨hk, fun e_ => hk.1 (by rw [e_]; rfl)⟩ : _ ∧ k_ ≠ go24))) (fun _ hk => hk.2) (.int .i64 (wrap64 ((rd x6_2 ((rd_T76 t190 x9_2).f1)) + ((rd_T76 t190 x9_2).f2))))) (fun _ hk => ⟨hk.1.1, hk.1.2⟩)⟩, ⟨by (with_reducible repeat (first | apply Kd.R_alloc | apply Kd.R_drewN | apply Kd.R_drew)); exact HQ32.out⟩, ⟨by (with_reducible repeat (first | apply Kd.R_alloc | apply Kd.R_drewN | apply Kd.R_drew)); exact Kd.R_mono (Kd.R_far (p := ⟨go24, (((rd_T76 t190 x9_2).f1) : Int).toNat, none⟩) (Kd.R_types HO_8.out GG24.out (by decide)) (fun _ hk => hk.2) (.int .i64 (wrap64 ((rd x6_2 ((rd_T76 t190 x9_2).f1)) + ((rd_T76 t190 x9_2).f2))))) (fun _ hk => trivial)⟩, ⟨by repeat (first | (with_reducible first | exact HB.out | apply below_alloc | apply pw_below_drewN | apply below_drew1 | refine below_set ?_ GB24.out) | exact HB.out)⟩⟩
                ·rw [if_neg c23] at H
                 have c23b0 : decide (0 < (rd x6_2 ((rd_T76 t190 x9_2).f1))) = false := decide_eq_false c23
                 clear c23
                 obtain ⟨y206, hy206⟩ : ∃ y_ : List Int, y_ = (x6_2.set (((rd_T76 t190 x9_2).f1) : Int).toNat (wrap64 ((rd x6_2 ((rd_T76 t190 x9_2).f1)) + ((rd_T76 t190 x9_2).f2)))) := ⟨_, rfl⟩
                 replace H : (if (wrap64 ((rd x6_2 ((rd_T76 t190 x9_2).f1)) + ((rd_T76 t190 x9_2).f2))) > 0 then (barrowref01_sweep.l1 kj14 l0 a1 t190 y206 (wrap64 (x7_2 + 1)) x8_1 (wrap64 (x9_2 + 1)) ((rd_T76 t190 x9_1).f0)) else (barrowref01_sweep.l1 kj14 l0 a1 t190 y206 x7_2 x8_1 (wrap64 (x9_2 + 1)) ((rd_T76 t190 x9_1).f0))) = some r := by first | (rw [hy206]; with_reducible exact H) | (have H2_ := (Option.bind_some _ _).symm.trans H; rw [hy206]; with_reducible exact H2_) | (have H2_ := (Option.bind_some _ _).symm.trans H; with_reducible exact H2_) | with_reducible exact H | (rw [hy206]; exact H) | exact H
                 have Ny206 := Aside0.mk hy206
                 clear hy206
                 by_cases c35 : (wrap64 ((rd x6_2 ((rd_T76 t190 x9_2).f1)) + ((rd_T76 t190 x9_2).f2))) > 0
                 ·rw [if_pos c35] at H
                  have c35b0 : decide (0 < (wrap64 ((rd x6_2 ((rd_T76 t190 x9_2).f1)) + ((rd_T76 t190 x9_2).f2)))) = true := decide_eq_true c35
                  clear c35
                  have H' := Aside0.mk H
                  clear H
                  have p198 : 0 ≤ (x9_2 : Int) := of_decide_eq_true (by first | (with_reducible assumption) | assumption)
                  have q198 : x9_2 < (t190.length : Int) := of_decide_eq_true (by first | (with_reducible assumption) | assumption)
                  obtain ⟨ad198, e198, hx198_0, hx198_1, hx198_2⟩ := at_T76 (Kd.V_reads' HO_5.out).2.2 x9_2 p198 q198
                  obtain rfl : ad196 = ad198 := (by injection e198)
                  replace p198 := eq_true p198
                  replace q198 := eq_true q198
                  obtain ⟨Ao36, co36, eo36⟩ := Kd.R_slice HO_6.out
                  subst eo36
                  have p199 : 0 ≤ (((rd_T76 t190 x9_2).f1) : Int) := of_decide_eq_true (by first | (with_reducible assumption) | assumption)
                  have q199 : ((rd_T76 t190 x9_2).f1) < (x6_2.length : Int) := of_decide_eq_true (by first | (with_reducible assumption) | assumption)
                  obtain ⟨ad199, e199, hx199_0⟩ := Kd.at_int (Kd.R_reads' HO_6.out).2.2 ((rd_T76 t190 x9_2).f1) p199 q199
                  cases e199
                  replace p199 := eq_true p199
                  replace q199 := eq_true q199
                  try go_wp2
                  have n0_ := Aside0.mk (Kd.V_drew HO_5.out)
                  have n1_ := Aside0.mk (Kd.R_drew HO_6.out)
                  have n2_ := Aside0.mk (Kd.R_drew HO_8.out)
                  have n3_ := Aside0.mk (below_drew1 HB.out)
                  clear HO_5
                  clear HO_6
                  clear HO_8
                  clear HB
                  have HO_5 := n0_
                  have HO_6 := n1_
                  have HO_8 := n2_
                  have HB := n3_
                  clear n0_ n1_ n2_ n3_
                  have p204 : 0 ≤ (((rd_T76 t190 x9_2).f1) : Int) := of_decide_eq_true (by first | (with_reducible assumption) | assumption)
                  have q204 : ((rd_T76 t190 x9_2).f1) < (x6_2.length : Int) := of_decide_eq_true (by first | (with_reducible assumption) | assumption)
                  obtain ⟨ad204, e204, hx204_0⟩ := Kd.at_int (Kd.R_reads' HO_6.out).2.2 ((rd_T76 t190 x9_2).f1) p204 q204
                  obtain rfl : ad199 = ad204 := (by injection e204)
                  replace p204 := eq_true p204
                  replace q204 := eq_true q204
                  have p205 : 0 ≤ (x9_2 : Int) := of_decide_eq_true (by first | (with_reducible assumption) | assumption)
                  have q205 : x9_2 < (t190.length : Int) := of_decide_eq_true (by first | (with_reducible assumption) | assumption)
                  obtain ⟨ad205, e205, hx205_0, hx205_1, hx205_2⟩ := at_T76 (Kd.V_reads' HO_5.out).2.2 x9_2 p205 q205
                  obtain rfl : ad196 = ad205 := (by injection e205)
                  replace p205 := eq_true p205
                  replace q205 := eq_true q205
                  have p33 : 0 ≤ (((rd_T76 t190 x9_2).f1) : Int) := of_decide_eq_true (by first | (with_reducible assumption) | assumption)
                  have q33 : (((rd_T76 t190 x9_2).f1) : Int) < ((x6_2.length : Int) : Int) := of_decide_eq_true (by first | (with_reducible assumption) | assumption)
                  obtain ⟨go33, co33, eo33, gb33, gl33, cl33, HG33⟩ := Kd.R_form HO_6.out (by omega)
                  (first | cases eo33 | (injection eo33 with ea_ en_ ec_; (first | subst ea_ | (injection ea_ with ea_; subst ea_)); subst ec_; clear en_))
                  have GB33 := Aside0.mk gb33
                  have GG33 := Aside0.mk HG33
                  clear gb33 gl33 HG33
                  (first | simp only [add_plain] at hx199_0 | skip)
                  (first | simp only [add_plain] at hx204_0 | skip)
                  obtain ⟨hx33_0, hf33_0⟩ := Kd.R_celln 0 HO_6.out (((rd_T76 t190 x9_2).f1) : Int) p33 q33
                  replace p33 := eq_true p33
                  replace q33 := eq_true q33
                  have HP38 := Kd.R_putn HO_6.out (((rd_T76 t190 x9_2).f1) : Int) (wrap64 ((rd x6_2 ((rd_T76 t190 x9_2).f1)) + ((rd_T76 t190 x9_2).f2)))
                  rw [← Ny206.out] at HP38
                  have HQ38 := Aside0.mk HP38
                  clear HP38
                  refine start_ (n := 14) (S := fun w' => w'.cell? ⟨go33, (((rd_T76 t190 x9_2).f1)).toNat, none⟩ = some (.int .i64 (rd x6_2 ((rd_T76 t190 x9_2).f1))) ∧ w'.cell? (ad196.add ((x9_2).toNat * 3)) = some (.int .i64 ((rd_T76 t190 x9_2).f0)) ∧ w'.cell? ⟨(ad196.add ((x9_2).toNat * 3)).block, (ad196.add ((x9_2).toNat * 3)).off + 1, none⟩ = some (.int .i64 ((rd_T76 t190 x9_2).f1)) ∧ w'.cell? ⟨(ad196.add ((x9_2).toNat * 3)).block, (ad196.add ((x9_2).toNat * 3)).off + 2, none⟩ = some (.int .i64 ((rd_T76 t190 x9_2).f2))) (ds := [13]) #[false, false, false, false, false, false, false, false, false, false, false, false, false, false] (by kernel_rfl) rfl rfl ⟨hx204_0, hx205_0, hx205_1, hx205_2⟩ (fun hHeld => ?_); refine with_tabW barrowref01_sweep.tab13 barrowref01_sweep.bits13 (fun HT_ HW_ => ?_)
                  generalize wc.drew = w37 at HO_5 HO_6 HO_8 HB GG33 HQ38 hf33_0 hx199_0 hx204_0 hx205_0 hx205_1 hx205_2 hx33_0 hHeld ⊢
                  refine pure_ (i := 0) (N := some 55) (v := ?_) (a' := ?_) #[true, false, false, false, false, false, false, false, false, false, false, false, false, false] rfl rfl (any_of HT_.out (by kernel_rfl)) (fun _ _ _ h => h) (Or.inl ⟨by rfl, ?_⟩) ?_ ?_
                  rotate_left
                  ·intro w'
                   go_simp
                   with_reducible rfl
                  rotate_left
                  ·simp only [Act.put, List.setIfInBounds_toArray, List.set_cons_zero, List.set_cons_succ, i64_w, i32_w]
                   rfl
                  refine pure_ (i := 1) (N := some 56) (v := ?_) (a' := ?_) #[true, true, false, false, false, false, false, false, false, false, false, false, false, false] rfl rfl (any_of HT_.out (by kernel_rfl)) (fun _ _ _ h => h) (Or.inl ⟨by rfl, ?_⟩) ?_ ?_
                  rotate_left
                  ·intro w'
                   go_simp
                   with_reducible rfl
                  rotate_left
                  ·simp only [Act.put, List.setIfInBounds_toArray, List.set_cons_zero, List.set_cons_succ, i64_w, i32_w]
                   rfl
                  refine pure_ (i := 2) (N := some 57) (v := ?_) (a' := ?_) #[true, true, true, false, false, false, false, false, false, false, false, false, false, false] rfl rfl (any_of HT_.out (by kernel_rfl)) (fun _ _ _ h => h) (Or.inl ⟨by rfl, ?_⟩) ?_ ?_
                  rotate_left
                  ·intro w'
                   go_simp
                   with_reducible rfl
                  rotate_left
                  ·simp only [Act.put, List.setIfInBounds_toArray, List.set_cons_zero, List.set_cons_succ, i64_w, i32_w]
                   rfl
                  refine pure_ (i := 3) (N := some 58) (v := ?_) (a' := ?_) #[true, true, true, true, false, false, false, false, false, false, false, false, false, false] rfl rfl (any_of HT_.out (by kernel_rfl)) (fun _ _ _ h => h) (Or.inl ⟨by rfl, ?_⟩) ?_ ?_
                  rotate_left
                  ·intro w'
                   go_simp
                   with_reducible rfl
                  rotate_left
                  ·simp only [Act.put, List.setIfInBounds_toArray, List.set_cons_zero, List.set_cons_succ, i64_w, i32_w]
                   rfl
                  refine pure_ (i := 4) (N := some 59) (v := ?_) (a' := ?_) #[true, true, true, true, true, false, false, false, false, false, false, false, false, false] rfl rfl (any_of HT_.out (by kernel_rfl)) (fun _ _ _ h => h) (Or.inl ⟨by rfl, ?_⟩) ?_ ?_
                  rotate_left
                  ·intro w'
                   go_simp
                   with_reducible rfl
                  rotate_left
                  ·simp only [Act.put, List.setIfInBounds_toArray, List.set_cons_zero, List.set_cons_succ, i64_w, i32_w]
                   rfl
                  refine pure_ (i := 6) (N := some 61) (v := ?_) (a' := ?_) #[true, true, true, true, true, false, true, false, false, false, false, false, false, false] rfl rfl (any_of HT_.out (by kernel_rfl)) (fun _ _ _ h => h) (Or.inl ⟨by rfl, ?_⟩) ?_ ?_
                  rotate_left
                  ·intro w'
                   go_simp
                   with_reducible rfl
                  rotate_left
                  ·simp only [Act.put, List.setIfInBounds_toArray, List.set_cons_zero, List.set_cons_succ, i64_w, i32_w]
                   rfl
                  refine pure_ (i := 7) (N := some 62) (v := ?_) (a' := ?_) #[true, true, true, true, true, false, true, true, false, false, false, false, false, false] rfl rfl (any_of HT_.out (by kernel_rfl)) (fun _ _ _ h => h) (Or.inl ⟨by rfl, ?_⟩) ?_ ?_
                  rotate_left
                  ·intro w'
                   go_simp
                   with_reducible rfl
                  rotate_left
                  ·simp only [Act.put, List.setIfInBounds_toArray, List.set_cons_zero, List.set_cons_succ, i64_w, i32_w]
                   rfl
                  refine pure_ (i := 8) (N := some 63) (v := ?_) (a' := ?_) #[true, true, true, true, true, false, true, true, true, false, false, false, false, false] rfl rfl (any_of HT_.out (by kernel_rfl)) (fun _ _ _ h => h) (Or.inl ⟨by rfl, ?_⟩) ?_ ?_
                  rotate_left
                  ·intro w'
                   go_simp
                   with_reducible rfl
                  rotate_left
                  ·simp only [Act.put, List.setIfInBounds_toArray, List.set_cons_zero, List.set_cons_succ, i64_w, i32_w]
                   rfl
                  refine pure_ (i := 9) (N := some 64) (v := ?_) (a' := ?_) #[true, true, true, true, true, false, true, true, true, true, false, false, false, false] rfl rfl (any_of HT_.out (by kernel_rfl)) (fun _ _ _ h => h) (Or.inl ⟨by rfl, ?_⟩) ?_ ?_
                  rotate_left
                  ·intro w'
                   go_simp
                   with_reducible rfl
                  rotate_left
                  ·simp only [Act.put, List.setIfInBounds_toArray, List.set_cons_zero, List.set_cons_succ, i64_w, i32_w]
                   rfl
                  refine take_ (i := 5) (N := some 60) (v := ?_) (a' := ?_) #[true, true, true, true, true, true, true, true, true, true, false, false, false, false] rfl rfl (take_ofW HT_.out HW_.out (by kernel_rfl)) (fun _ _ _ h => h) (Or.inl ⟨by rfl, ?_⟩) hHeld ?_ ?_
                  rotate_left
                  ·rintro w' ⟨s0, s1, s2, s3⟩
                   go_simp
                   with_reducible rfl
                  rotate_left
                  ·simp only [Act.put, List.setIfInBounds_toArray, List.set_cons_zero, List.set_cons_succ, i64_w, i32_w]
                   rfl
                  refine take_ (i := 10) (N := some 65) (v := ?_) (a' := ?_) #[true, true, true, true, true, true, true, true, true, true, true, false, false, false] rfl rfl (take_ofW HT_.out HW_.out (by kernel_rfl)) (fun _ _ _ h => h) (Or.inl ⟨by rfl, ?_⟩) hHeld ?_ ?_
                  rotate_left
                  ·rintro w' ⟨s0, s1, s2, s3⟩
                   go_simp
                   with_reducible rfl
                  rotate_left
                  ·simp only [Act.put, List.setIfInBounds_toArray, List.set_cons_zero, List.set_cons_succ, i64_w, i32_w]
                   rfl
                  refine pure_ (i := 11) (N := some 66) (v := ?_) (a' := ?_) #[true, true, true, true, true, true, true, true, true, true, true, true, false, false] rfl rfl (any_of HT_.out (by kernel_rfl)) (fun _ _ _ h => h) (Or.inl ⟨by rfl, ?_⟩) ?_ ?_
                  rotate_left
                  ·intro w'
                   go_simp
                   with_reducible rfl
                  rotate_left
                  ·simp only [Act.put, List.setIfInBounds_toArray, List.set_cons_zero, List.set_cons_succ, i64_w, i32_w]
                   rfl
                  refine pure_ (i := 12) (N := some 67) (v := ?_) (a' := ?_) #[true, true, true, true, true, true, true, true, true, true, true, true, true, false] rfl rfl (any_of HT_.out (by kernel_rfl)) (fun _ _ _ h => h) (Or.inl ⟨by rfl, ?_⟩) ?_ ?_
                  rotate_left
                  ·intro w'
                   go_simp
                   with_reducible rfl
                  rotate_left
                  ·simp only [Act.put, List.setIfInBounds_toArray, List.set_cons_zero, List.set_cons_succ, i64_w, i32_w]
                   rfl
                  refine last_ (i := 13) (N := none) #[true, true, true, true, true, true, true, true, true, true, true, true, true, true] rfl rfl (one_of HT_.out (by kernel_rfl)) (by decide) (fun K hK => ?_)
                  refine skip_ (w1 := ?_) (by rfl) rfl ?_ ?_
                  rotate_left
                  ·go_simp
                   rfl
                  refine hK.out _ _ ?_
                  clear hK K
                  refine done_ (done_of HT_.out (by kernel_rfl)) ?_
                  have p34 : 0 ≤ (((rd_T76 t190 x9_2).f1) : Int) := of_decide_eq_true (by first | (with_reducible assumption) | assumption)
                  have q34 : (((rd_T76 t190 x9_2).f1) : Int) < ((x6_2.length : Int) : Int) := of_decide_eq_true (by first | (with_reducible assumption) | assumption)
                  replace p34 := eq_true p34
                  replace q34 := eq_true q34
                  try go_wp2
                  go_roundg kj14
                  case measure => have := HK1.out; have := HK2.out; have := HJ14.out; omega
                  case rel => exact ⟨(y206), (wrap64 (x7_2 + 1)), (wrap64 (x9_2 + 1)), (by first | rfl | (simp; done) | (simp [*]; done)), (by first | rfl | (simp; done) | (simp [*]; done)), H', ⟨by have := HK1.out; have := HK2.out; have := HJ14.out; omega⟩, ⟨by (with_reducible repeat (first | apply Kd.V_alloc | apply Kd.V_drewN | apply Kd.V_drew)); exact Kd.V_mono (Kd.V_far (p := ⟨go33, (((rd_T76 t190 x9_2).f1) : Int).toNat, none⟩) (Kd.V_mono HO_5.out (fun k_ hk => (⟨hk, fun e_ => hk.1 (by rw [e_]; rfl)⟩ : _ ∧ k_ ≠ go33))) (fun _ hk => hk.2) (.int .i64 (wrap64 ((rd x6_2 ((rd_T76 t190 x9_2).f1)) + ((rd_T76 t190 x9_2).f2))))) (fun _ hk => ⟨hk.1.1, hk.1.2⟩)⟩, ⟨by (with_reducible repeat (first | apply Kd.R_alloc | apply Kd.R_drewN | apply Kd.R_drew)); exact HQ38.out⟩, ⟨by (with_reducible repeat (first | apply Kd.R_alloc | apply Kd.R_drewN | apply Kd.R_drew)); exact Kd.R_mono (Kd.R_far (p := ⟨go33, (((rd_T76 t190 x9_2).f1) : Int).toNat, none⟩) (Kd.R_types HO_8.out GG33.out (by decide)) (fun _ hk => hk.2) (.int .i64 (wrap64 ((rd x6_2 ((rd_T76 t190 x9_2).f1)) + ((rd_T76 t190 x9_2).f2))))) (fun _ hk => trivial)⟩, ⟨by repeat (first | (with_reducible first | exact HB.out | apply below_alloc | apply pw_below_drewN | apply below_drew1 | refine below_set ?_ GB33.out) | exact HB.out)⟩⟩
                 ·rw [if_neg c35] at H
                  have c35b0 : decide (0 < (wrap64 ((rd x6_2 ((rd_T76 t190 x9_2).f1)) + ((rd_T76 t190 x9_2).f2)))) = false := decide_eq_false c35
                  clear c35
                  have H' := Aside0.mk H
                  clear H
                  have p198 : 0 ≤ (x9_2 : Int) := of_decide_eq_true (by first | (with_reducible assumption) | assumption)
                  have q198 : x9_2 < (t190.length : Int) := of_decide_eq_true (by first | (with_reducible assumption) | assumption)
                  obtain ⟨ad198, e198, hx198_0, hx198_1, hx198_2⟩ := at_T76 (Kd.V_reads' HO_5.out).2.2 x9_2 p198 q198
                  obtain rfl : ad196 = ad198 := (by injection e198)
                  replace p198 := eq_true p198
                  replace q198 := eq_true q198
                  obtain ⟨Ao39, co39, eo39⟩ := Kd.R_slice HO_6.out
                  subst eo39
                  have p199 : 0 ≤ (((rd_T76 t190 x9_2).f1) : Int) := of_decide_eq_true (by first | (with_reducible assumption) | assumption)
                  have q199 : ((rd_T76 t190 x9_2).f1) < (x6_2.length : Int) := of_decide_eq_true (by first | (with_reducible assumption) | assumption)
                  obtain ⟨ad199, e199, hx199_0⟩ := Kd.at_int (Kd.R_reads' HO_6.out).2.2 ((rd_T76 t190 x9_2).f1) p199 q199
                  cases e199
                  replace p199 := eq_true p199
                  replace q199 := eq_true q199
                  try go_wp2
                  have n0_ := Aside0.mk (Kd.V_drew HO_5.out)
                  have n1_ := Aside0.mk (Kd.R_drew HO_6.out)
                  have n2_ := Aside0.mk (Kd.R_drew HO_8.out)
                  have n3_ := Aside0.mk (below_drew1 HB.out)
                  clear HO_5
                  clear HO_6
                  clear HO_8
                  clear HB
                  have HO_5 := n0_
                  have HO_6 := n1_
                  have HO_8 := n2_
                  have HB := n3_
                  clear n0_ n1_ n2_ n3_
                  have p204 : 0 ≤ (((rd_T76 t190 x9_2).f1) : Int) := of_decide_eq_true (by first | (with_reducible assumption) | assumption)
                  have q204 : ((rd_T76 t190 x9_2).f1) < (x6_2.length : Int) := of_decide_eq_true (by first | (with_reducible assumption) | assumption)
                  obtain ⟨ad204, e204, hx204_0⟩ := Kd.at_int (Kd.R_reads' HO_6.out).2.2 ((rd_T76 t190 x9_2).f1) p204 q204
                  obtain rfl : ad199 = ad204 := (by injection e204)
                  replace p204 := eq_true p204
                  replace q204 := eq_true q204
                  have p205 : 0 ≤ (x9_2 : Int) := of_decide_eq_true (by first | (with_reducible assumption) | assumption)
                  have q205 : x9_2 < (t190.length : Int) := of_decide_eq_true (by first | (with_reducible assumption) | assumption)
                  obtain ⟨ad205, e205, hx205_0, hx205_1, hx205_2⟩ := at_T76 (Kd.V_reads' HO_5.out).2.2 x9_2 p205 q205
                  obtain rfl : ad196 = ad205 := (by injection e205)
                  replace p205 := eq_true p205
                  replace q205 := eq_true q205
                  have p33 : 0 ≤ (((rd_T76 t190 x9_2).f1) : Int) := of_decide_eq_true (by first | (with_reducible assumption) | assumption)
                  have q33 : (((rd_T76 t190 x9_2).f1) : Int) < ((x6_2.length : Int) : Int) := of_decide_eq_true (by first | (with_reducible assumption) | assumption)
                  obtain ⟨go33, co33, eo33, gb33, gl33, cl33, HG33⟩ := Kd.R_form HO_6.out (by omega)
                  (first | cases eo33 | (injection eo33 with ea_ en_ ec_; (first | subst ea_ | (injection ea_ with ea_; subst ea_)); subst ec_; clear en_))
                  have GB33 := Aside0.mk gb33
                  have GG33 := Aside0.mk HG33
                  clear gb33 gl33 HG33
                  (first | simp only [add_plain] at hx199_0 | skip)
                  (first | simp only [add_plain] at hx204_0 | skip)
                  obtain ⟨hx33_0, hf33_0⟩ := Kd.R_celln 0 HO_6.out (((rd_T76 t190 x9_2).f1) : Int) p33 q33
                  replace p33 := eq_true p33
                  replace q33 := eq_true q33
                  have HP41 := Kd.R_putn HO_6.out (((rd_T76 t190 x9_2).f1) : Int) (wrap64 ((rd x6_2 ((rd_T76 t190 x9_2).f1)) + ((rd_T76 t190 x9_2).f2)))
                  rw [← Ny206.out] at HP41
                  have HQ41 := Aside0.mk HP41
                  clear HP41
                  refine start_ (n := 14) (S := fun w' => w'.cell? ⟨go33, (((rd_T76 t190 x9_2).f1)).toNat, none⟩ = some (.int .i64 (rd x6_2 ((rd_T76 t190 x9_2).f1))) ∧ w'.cell? (ad196.add ((x9_2).toNat * 3)) = some (.int .i64 ((rd_T76 t190 x9_2).f0)) ∧ w'.cell? ⟨(ad196.add ((x9_2).toNat * 3)).block, (ad196.add ((x9_2).toNat * 3)).off + 1, none⟩ = some (.int .i64 ((rd_T76 t190 x9_2).f1)) ∧ w'.cell? ⟨(ad196.add ((x9_2).toNat * 3)).block, (ad196.add ((x9_2).toNat * 3)).off + 2, none⟩ = some (.int .i64 ((rd_T76 t190 x9_2).f2))) (ds := [13]) #[false, false, false, false, false, false, false, false, false, false, false, false, false, false] (by kernel_rfl) rfl rfl ⟨hx204_0, hx205_0, hx205_1, hx205_2⟩ (fun hHeld => ?_); refine with_tabW barrowref01_sweep.tab13 barrowref01_sweep.bits13 (fun HT_ HW_ => ?_)
                  generalize wc.drew = w40 at HO_5 HO_6 HO_8 HB GG33 HQ41 hf33_0 hx199_0 hx204_0 hx205_0 hx205_1 hx205_2 hx33_0 hHeld ⊢
                  refine pure_ (i := 0) (N := some 55) (v := ?_) (a' := ?_) #[true, false, false, false, false, false, false, false, false, false, false, false, false, false] rfl rfl (any_of HT_.out (by kernel_rfl)) (fun _ _ _ h => h) (Or.inl ⟨by rfl, ?_⟩) ?_ ?_
                  rotate_left
                  ·intro w'
                   go_simp
                   with_reducible rfl
                  rotate_left
                  ·simp only [Act.put, List.setIfInBounds_toArray, List.set_cons_zero, List.set_cons_succ, i64_w, i32_w]
                   rfl
                  refine pure_ (i := 1) (N := some 56) (v := ?_) (a' := ?_) #[true, true, false, false, false, false, false, false, false, false, false, false, false, false] rfl rfl (any_of HT_.out (by kernel_rfl)) (fun _ _ _ h => h) (Or.inl ⟨by rfl, ?_⟩) ?_ ?_
                  rotate_left
                  ·intro w'
                   go_simp
                   with_reducible rfl
                  rotate_left
                  ·simp only [Act.put, List.setIfInBounds_toArray, List.set_cons_zero, List.set_cons_succ, i64_w, i32_w]
                   rfl
                  refine pure_ (i := 2) (N := some 57) (v := ?_) (a' := ?_) #[true, true, true, false, false, false, false, false, false, false, false, false, false, false] rfl rfl (any_of HT_.out (by kernel_rfl)) (fun _ _ _ h => h) (Or.inl ⟨by rfl, ?_⟩) ?_ ?_
                  rotate_left
                  ·intro w'
                   go_simp
                   with_reducible rfl
                  rotate_left
                  ·simp only [Act.put, List.setIfInBounds_toArray, List.set_cons_zero, List.set_cons_succ, i64_w, i32_w]
                   rfl
                  refine pure_ (i := 3) (N := some 58) (v := ?_) (a' := ?_) #[true, true, true, true, false, false, false, false, false, false, false, false, false, false] rfl rfl (any_of HT_.out (by kernel_rfl)) (fun _ _ _ h => h) (Or.inl ⟨by rfl, ?_⟩) ?_ ?_
                  rotate_left
                  ·intro w'
                   go_simp
                   with_reducible rfl
                  rotate_left
                  ·simp only [Act.put, List.setIfInBounds_toArray, List.set_cons_zero, List.set_cons_succ, i64_w, i32_w]
                   rfl
                  refine pure_ (i := 4) (N := some 59) (v := ?_) (a' := ?_) #[true, true, true, true, true, false, false, false, false, false, false, false, false, false] rfl rfl (any_of HT_.out (by kernel_rfl)) (fun _ _ _ h => h) (Or.inl ⟨by rfl, ?_⟩) ?_ ?_
                  rotate_left
                  ·intro w'
                   go_simp
                   with_reducible rfl
                  rotate_left
                  ·simp only [Act.put, List.setIfInBounds_toArray, List.set_cons_zero, List.set_cons_succ, i64_w, i32_w]
                   rfl
                  refine pure_ (i := 6) (N := some 61) (v := ?_) (a' := ?_) #[true, true, true, true, true, false, true, false, false, false, false, false, false, false] rfl rfl (any_of HT_.out (by kernel_rfl)) (fun _ _ _ h => h) (Or.inl ⟨by rfl, ?_⟩) ?_ ?_
                  rotate_left
                  ·intro w'
                   go_simp
                   with_reducible rfl
                  rotate_left
                  ·simp only [Act.put, List.setIfInBounds_toArray, List.set_cons_zero, List.set_cons_succ, i64_w, i32_w]
                   rfl
                  refine pure_ (i := 7) (N := some 62) (v := ?_) (a' := ?_) #[true, true, true, true, true, false, true, true, false, false, false, false, false, false] rfl rfl (any_of HT_.out (by kernel_rfl)) (fun _ _ _ h => h) (Or.inl ⟨by rfl, ?_⟩) ?_ ?_
                  rotate_left
                  ·intro w'
                   go_simp
                   with_reducible rfl
                  rotate_left
                  ·simp only [Act.put, List.setIfInBounds_toArray, List.set_cons_zero, List.set_cons_succ, i64_w, i32_w]
                   rfl
                  refine pure_ (i := 8) (N := some 63) (v := ?_) (a' := ?_) #[true, true, true, true, true, false, true, true, true, false, false, false, false, false] rfl rfl (any_of HT_.out (by kernel_rfl)) (fun _ _ _ h => h) (Or.inl ⟨by rfl, ?_⟩) ?_ ?_
                  rotate_left
                  ·intro w'
                   go_simp
                   with_reducible rfl
                  rotate_left
                  ·simp only [Act.put, List.setIfInBounds_toArray, List.set_cons_zero, List.set_cons_succ, i64_w, i32_w]
                   rfl
                  refine pure_ (i := 9) (N := some 64) (v := ?_) (a' := ?_) #[true, true, true, true, true, false, true, true, true, true, false, false, false, false] rfl rfl (any_of HT_.out (by kernel_rfl)) (fun _ _ _ h => h) (Or.inl ⟨by rfl, ?_⟩) ?_ ?_
                  rotate_left
                  ·intro w'
                   go_simp
                   with_reducible rfl
                  rotate_left
                  ·simp only [Act.put, List.setIfInBounds_toArray, List.set_cons_zero, List.set_cons_succ, i64_w, i32_w]
                   rfl
                  refine take_ (i := 5) (N := some 60) (v := ?_) (a' := ?_) #[true, true, true, true, true, true, true, true, true, true, false, false, false, false] rfl rfl (take_ofW HT_.out HW_.out (by kernel_rfl)) (fun _ _ _ h => h) (Or.inl ⟨by rfl, ?_⟩) hHeld ?_ ?_
                  rotate_left
                  ·rintro w' ⟨s0, s1, s2, s3⟩
                   go_simp
                   with_reducible rfl
                  rotate_left
                  ·simp only [Act.put, List.setIfInBounds_toArray, List.set_cons_zero, List.set_cons_succ, i64_w, i32_w]
                   rfl
                  refine take_ (i := 10) (N := some 65) (v := ?_) (a' := ?_) #[true, true, true, true, true, true, true, true, true, true, true, false, false, false] rfl rfl (take_ofW HT_.out HW_.out (by kernel_rfl)) (fun _ _ _ h => h) (Or.inl ⟨by rfl, ?_⟩) hHeld ?_ ?_
                  rotate_left
                  ·rintro w' ⟨s0, s1, s2, s3⟩
                   go_simp
                   with_reducible rfl
                  rotate_left
                  ·simp only [Act.put, List.setIfInBounds_toArray, List.set_cons_zero, List.set_cons_succ, i64_w, i32_w]
                   rfl
                  refine pure_ (i := 11) (N := some 66) (v := ?_) (a' := ?_) #[true, true, true, true, true, true, true, true, true, true, true, true, false, false] rfl rfl (any_of HT_.out (by kernel_rfl)) (fun _ _ _ h => h) (Or.inl ⟨by rfl, ?_⟩) ?_ ?_
                  rotate_left
                  ·intro w'
                   go_simp
                   with_reducible rfl
                  rotate_left
                  ·simp only [Act.put, List.setIfInBounds_toArray, List.set_cons_zero, List.set_cons_succ, i64_w, i32_w]
                   rfl
                  refine pure_ (i := 12) (N := some 67) (v := ?_) (a' := ?_) #[true, true, true, true, true, true, true, true, true, true, true, true, true, false] rfl rfl (any_of HT_.out (by kernel_rfl)) (fun _ _ _ h => h) (Or.inl ⟨by rfl, ?_⟩) ?_ ?_
                  rotate_left
                  ·intro w'
                   go_simp
                   with_reducible rfl
                  rotate_left
                  ·simp only [Act.put, List.setIfInBounds_toArray, List.set_cons_zero, List.set_cons_succ, i64_w, i32_w]
                   rfl
                  refine last_ (i := 13) (N := none) #[true, true, true, true, true, true, true, true, true, true, true, true, true, true] rfl rfl (one_of HT_.out (by kernel_rfl)) (by decide) (fun K hK => ?_)
                  refine skip_ (w1 := ?_) (by rfl) rfl ?_ ?_
                  rotate_left
                  ·go_simp
                   rfl
                  refine hK.out _ _ ?_
                  clear hK K
                  refine done_ (done_of HT_.out (by kernel_rfl)) ?_
                  have p34 : 0 ≤ (((rd_T76 t190 x9_2).f1) : Int) := of_decide_eq_true (by first | (with_reducible assumption) | assumption)
                  have q34 : (((rd_T76 t190 x9_2).f1) : Int) < ((x6_2.length : Int) : Int) := of_decide_eq_true (by first | (with_reducible assumption) | assumption)
                  replace p34 := eq_true p34
                  replace q34 := eq_true q34
                  try go_wp2
                  go_roundg kj14
                  case measure => have := HK1.out; have := HK2.out; have := HJ14.out; omega
                  case rel => exact ⟨(y206), (x7_2), (wrap64 (x9_2 + 1)), (by first | rfl | (simp; done) | (simp [*]; done)), (by first | rfl | (simp; done) | (simp [*]; done)), H', ⟨by have := HK1.out; have := HK2.out; have := HJ14.out; omega⟩, ⟨by (with_reducible repeat (first | apply Kd.V_alloc | apply Kd.V_drewN | apply Kd.V_drew)); exact Kd.V_mono (Kd.V_far (p := ⟨go33, (((rd_T76 t190 x9_2).f1) : Int).toNat, none⟩) (Kd.V_mono HO_5.out (fun k_ hk => (⟨hk, fun e_ => hk.1 (by rw [e_]; rfl)⟩ : _ ∧ k_ ≠ go33))) (fun _ hk => hk.2) (.int .i64 (wrap64 ((rd x6_2 ((rd_T76 t190 x9_2).f1)) + ((rd_T76 t190 x9_2).f2))))) (fun _ hk => ⟨hk.1.1, hk.1.2⟩)⟩, ⟨by (with_reducible repeat (first | apply Kd.R_alloc | apply Kd.R_drewN | apply Kd.R_drew)); exact HQ41.out⟩, ⟨by (with_reducible repeat (first | apply Kd.R_alloc | apply Kd.R_drewN | apply Kd.R_drew)); exact Kd.R_mono (Kd.R_far (p := ⟨go33, (((rd_T76 t190 x9_2).f1) : Int).toNat, none⟩) (Kd.R_types HO_8.out GG33.out (by decide)) (fun _ hk => hk.2) (.int .i64 (wrap64 ((rd x6_2 ((rd_T76 t190 x9_2).f1)) + ((rd_T76 t190 x9_2).f2))))) (fun _ hk => trivial)⟩, ⟨by repeat (first | (with_reducible first | exact HB.out | apply below_alloc | apply pw_below_drewN | apply below_drew1 | refine below_set ?_ GB33.out) | exact HB.out)⟩⟩
               ·rw [if_neg c22] at H
                exact absurd H (by simp)
              ·rw [if_neg c21] at H
               exact absurd H (by simp)
             ·rw [if_neg c20] at H
              exact absurd H (by simp)
            ·rw [if_neg c19] at H
             exact absurd H (by simp)
           ·replace c18 := Bool.eq_false_iff.mpr c18
            subst c18
            have H1 : (if a1 = 2 then (barrowref01_sweep.j3 kj14 l0 a1 t190 x6_2 x7_2 x8_1 x9_2 ((rd_T76 t190 x9_1).f0) (x7_2 == (l0.length : Int))) else (barrowref01_sweep.j3 kj14 l0 a1 t190 x6_2 x7_2 x8_1 x9_2 ((rd_T76 t190 x9_1).f0) (decide (x7_2 > 0)))) = some r := by rw [if_neg (show ¬ (false = true) by decide)] at H; exact H
            clear H
            have H := H1
            clear H1
            have HC42 := Aside0.mk H
            clear H
            go_upto_if 80 with (fail)
            go_cut [12] (fun v12 wc => ∃ (kq : Nat) (x12_41 : Bool), v12 = .bool x12_41 ∧ Aside0 (barrowref01_sweep.j3 kq l0 a1 t190 x6_2 x7_2 x8_1 x9_2 ((rd_T76 t190 x9_1).f0) x12_41 = some r) ∧ Aside0 (kq ≤ kj14) ∧ Aside0 (Kd.V k76 76 wc w.heap.size (fun k_ => some k_ ≠ (v194 : Value).ownBlock ∧ some k_ ≠ (u8 : Value).ownBlock) (.slice (some ad196) t190.length co14) t190) ∧ Aside0 (Kd.R (Kd.int .i64) 3 wc w.heap.size (fun _ => True) v194 x6_2) ∧ Aside0 (Kd.R k32 32 wc w.heap.size (fun _ => True) u8 x8_1) ∧ Aside0 (Below w.heap.size w wc))
            case first =>
             have H := HC42.out
             clear HC42
             by_cases c43 : a1 = 2
             ·rw [if_pos c43] at H
              have c43b0 : (a1 == 2) = true := beq_iff_eq.mpr c43
              have c43b1 : (a1 != 2) = false := bne_eq_false_iff_eq.mpr c43
              clear c43
              (first | rw [c43b0] | (simp only [i64_w, i32_w]; rw [c43b0]) | skip)
              have H' := Aside0.mk H
              clear H
              go_wp2
              go_meet
              case rel => exact ⟨_, ((x7_2 == (l0.length : Int))), (by first | rfl | (simp; done) | (simp [*]; done)), H', ⟨by have := HK1.out; have := HK2.out; have := HJ14.out; first | omega | exact Nat.le_refl _⟩, ⟨by (with_reducible repeat (first | apply Kd.V_alloc | apply Kd.V_drewN | apply Kd.V_drew)); exact HO_5.out⟩, ⟨by (with_reducible repeat (first | apply Kd.R_alloc | apply Kd.R_drewN | apply Kd.R_drew)); exact HO_6.out⟩, ⟨by (with_reducible repeat (first | apply Kd.R_alloc | apply Kd.R_drewN | apply Kd.R_drew)); exact HO_8.out⟩, ⟨by repeat (first | (with_reducible first | exact HB.out | apply below_alloc | apply pw_below_drewN | apply below_drew1) | exact HB.out)⟩⟩
             ·rw [if_neg c43] at H
              have c43b0 : (a1 == 2) = false := beq_eq_false_iff_ne.mpr c43
              have c43b1 : (a1 != 2) = true := bne_iff_ne.mpr c43
              (first | rw [c43b0] | (simp only [i64_w, i32_w]; rw [c43b0]) | skip)
              have H' := Aside0.mk H
              clear H
              go_wp2
              go_meet
              case rel => exact ⟨_, (decide (x7_2 > 0)), (by first | rfl | (simp; done) | (simp [*]; done)), H', ⟨by have := HK1.out; have := HK2.out; have := HJ14.out; first | omega | exact Nat.le_refl _⟩, ⟨by (with_reducible repeat (first | apply Kd.V_alloc | apply Kd.V_drewN | apply Kd.V_drew)); exact HO_5.out⟩, ⟨by (with_reducible repeat (first | apply Kd.R_alloc | apply Kd.R_drewN | apply Kd.R_drew)); exact HO_6.out⟩, ⟨by (with_reducible repeat (first | apply Kd.R_alloc | apply Kd.R_drewN | apply Kd.R_drew)); exact HO_8.out⟩, ⟨by repeat (first | (with_reducible first | exact HB.out | apply below_alloc | apply pw_below_drewN | apply below_drew1) | exact HB.out)⟩⟩
            case rest =>
             clear HC42
             try clear c1
             try clear p1
             try clear q1
             try clear hx1
             try clear c2
             try clear p2
             try clear q2
             try clear hx2
             try clear hf2
             try clear c3
             try clear p3
             try clear q3
             try clear hx3
             try clear hf3
             try clear c4
             try clear p6
             try clear c18
             try clear c19
             try clear p19
             try clear q19
             try clear hx19
             try clear c20
             try clear p20
             try clear q20
             try clear hx20
             try clear c21
             try clear c22
             try clear c23
             try clear c23b0
             try clear p24
             try clear q24
             try clear hx24
             try clear hf24
             try clear p25
             try clear q25
             try clear c26
             try clear c26b0
             try clear p33
             try clear q33
             try clear hx33
             try clear hf33
             try clear p34
             try clear q34
             try clear c35
             try clear c35b0
             try clear c43
             try clear c43b0
             try clear c43b1
             try clear hx198_0
             try clear hx198_1
             try clear hx198_2
             try clear hx199_0
             try clear hx200_0
             try clear hx201_0
             try clear hx201_1
             try clear hx201_2
             try clear hx204_0
             try clear hx205_0
             try clear hx205_1
             try clear hx205_2
             try clear hx24_0
             try clear hx33_0
             try clear p198
             try clear p199
             try clear p200
             try clear p201
             try clear p204
             try clear p205
             try clear p24
             try clear p25
             try clear p33
             try clear p34
             try clear q198
             try clear q199
             try clear q200
             try clear q201
             try clear q204
             try clear q205
             try clear q24
             try clear q25
             try clear q33
             try clear q34
             obtain ⟨kq, x12_41, rfl, HA, HJ41, HO_5, HO_6, HO_8, HB⟩ := hcut
             cases kq with
             | zero => exact absurd HA.out (by simp [barrowref01_sweep.j3])
             | succ kj41 =>
              have H := HA.out
              clear HA
              simp only [barrowref01_sweep.j3] at H
              have HC44 := Aside0.mk H
              clear H
              go_upto_if 86 with (fail)
              go_cut [12] (fun v12 wc => ∃ (kq : Nat) (x12_43 : Bool), v12 = .bool x12_43 ∧ Aside0 (barrowref01_sweep.j4 kq l0 a1 t190 x6_2 x7_2 x8_1 x9_2 ((rd_T76 t190 x9_1).f0) x12_43 = some r) ∧ Aside0 (kq ≤ kj41) ∧ Aside0 (Kd.V k76 76 wc w.heap.size (fun k_ => some k_ ≠ (v194 : Value).ownBlock ∧ some k_ ≠ (u8 : Value).ownBlock) (.slice (some ad196) t190.length co14) t190) ∧ Aside0 (Kd.R (Kd.int .i64) 3 wc w.heap.size (fun _ => True) v194 x6_2) ∧ Aside0 (Kd.R k32 32 wc w.heap.size (fun _ => True) u8 x8_1) ∧ Aside0 (Below w.heap.size w wc))
              case first =>
               have H := HC44.out
               clear HC44
               by_cases c45 : a1 = 3
               ·rw [if_pos c45] at H
                have c45b0 : (a1 == 3) = true := beq_iff_eq.mpr c45
                have c45b1 : (a1 != 3) = false := bne_eq_false_iff_eq.mpr c45
                clear c45
                (first | rw [c45b0] | (simp only [i64_w, i32_w]; rw [c45b0]) | skip)
                by_cases c46 : x7_2 = 1
                ·rw [if_pos c46] at H
                 have c46b0 : (x7_2 == 1) = true := beq_iff_eq.mpr c46
                 have c46b1 : (x7_2 != 1) = false := bne_eq_false_iff_eq.mpr c46
                 clear c46
                 by_cases c47 : 0 < (x6_2.length : Int)
                 ·rw [if_pos c47] at H
                  have c47b0 : decide (0 < (x6_2.length : Int)) = true := decide_eq_true c47
                  have c47b1 : decide (0 < x6_2.length) = true := decide_eq_true (by omega)
                  clear c47
                  have H' := Aside0.mk H
                  clear H
                  obtain ⟨Ao48, co48, eo48⟩ := Kd.R_slice HO_6.out
                  subst eo48
                  have p208 : 0 ≤ (0 : Int) := (by omega)
                  have q208 : 0 < (x6_2.length : Int) := of_decide_eq_true (by first | (with_reducible assumption) | assumption)
                  obtain ⟨ad208, e208, hx208_0⟩ := Kd.at_int (Kd.R_reads' HO_6.out).2.2 0 p208 q208
                  cases e208
                  have qi208 : (0 < x6_2.length) = True := eq_true (by omega)
                  (try rw [show ((0 : Int)).toNat = 0 from rfl] at hx208_0)
                  (try rw [Addr.add_zero'] at hx208_0)
                  replace p208 := eq_true p208
                  replace q208 := eq_true q208
                  go_wp2
                  go_meet
                  case rel => exact ⟨_, (decide ((rd x6_2 0) > 0)), (by first | rfl | (simp; done) | (simp [*]; done)), H', ⟨by have := HK1.out; have := HK2.out; have := HJ14.out; have := HJ41.out; first | omega | exact Nat.le_refl _⟩, ⟨by (with_reducible repeat (first | apply Kd.V_alloc | apply Kd.V_drewN | apply Kd.V_drew)); exact HO_5.out⟩, ⟨by (with_reducible repeat (first | apply Kd.R_alloc | apply Kd.R_drewN | apply Kd.R_drew)); exact HO_6.out⟩, ⟨by (with_reducible repeat (first | apply Kd.R_alloc | apply Kd.R_drewN | apply Kd.R_drew)); exact HO_8.out⟩, ⟨by repeat (first | (with_reducible first | exact HB.out | apply below_alloc | apply pw_below_drewN | apply below_drew1) | exact HB.out)⟩⟩
                 ·rw [if_neg c47] at H
                  exact absurd H (by simp)
                ·rw [if_neg c46] at H
                 have c46b0 : (x7_2 == 1) = false := beq_eq_false_iff_ne.mpr c46
                 have c46b1 : (x7_2 != 1) = true := bne_iff_ne.mpr c46
                 have H' := Aside0.mk H
                 clear H
                 go_wp2
                 go_meet
                 case rel => exact ⟨_, (false), (by first | rfl | (simp; done) | (simp [*]; done)), H', ⟨by have := HK1.out; have := HK2.out; have := HJ14.out; have := HJ41.out; first | omega | exact Nat.le_refl _⟩, ⟨by (with_reducible repeat (first | apply Kd.V_alloc | apply Kd.V_drewN | apply Kd.V_drew)); exact HO_5.out⟩, ⟨by (with_reducible repeat (first | apply Kd.R_alloc | apply Kd.R_drewN | apply Kd.R_drew)); exact HO_6.out⟩, ⟨by (with_reducible repeat (first | apply Kd.R_alloc | apply Kd.R_drewN | apply Kd.R_drew)); exact HO_8.out⟩, ⟨by repeat (first | (with_reducible first | exact HB.out | apply below_alloc | apply pw_below_drewN | apply below_drew1) | exact HB.out)⟩⟩
               ·rw [if_neg c45] at H
                have c45b0 : (a1 == 3) = false := beq_eq_false_iff_ne.mpr c45
                have c45b1 : (a1 != 3) = true := bne_iff_ne.mpr c45
                (first | rw [c45b0] | (simp only [i64_w, i32_w]; rw [c45b0]) | skip)
                have H' := Aside0.mk H
                clear H
                go_wp2
                go_meet
                case rel => exact ⟨_, (x12_41), (by first | rfl | (simp; done) | (simp [*]; done)), H', ⟨by have := HK1.out; have := HK2.out; have := HJ14.out; have := HJ41.out; first | omega | exact Nat.le_refl _⟩, ⟨by (with_reducible repeat (first | apply Kd.V_alloc | apply Kd.V_drewN | apply Kd.V_drew)); exact HO_5.out⟩, ⟨by (with_reducible repeat (first | apply Kd.R_alloc | apply Kd.R_drewN | apply Kd.R_drew)); exact HO_6.out⟩, ⟨by (with_reducible repeat (first | apply Kd.R_alloc | apply Kd.R_drewN | apply Kd.R_drew)); exact HO_8.out⟩, ⟨by repeat (first | (with_reducible first | exact HB.out | apply below_alloc | apply pw_below_drewN | apply below_drew1) | exact HB.out)⟩⟩
              case rest =>
               clear HC44
               try clear c1
               try clear p1
               try clear q1
               try clear hx1
               try clear c2
               try clear p2
               try clear q2
               try clear hx2
               try clear qi2
               try clear hf2
               try clear c3
               try clear p3
               try clear q3
               try clear hx3
               try clear hf3
               try clear c4
               try clear p6
               try clear c18
               try clear c19
               try clear p19
               try clear q19
               try clear hx19
               try clear c20
               try clear p20
               try clear q20
               try clear hx20
               try clear qi20
               try clear c21
               try clear c22
               try clear c23
               try clear c23b0
               try clear p24
               try clear q24
               try clear hx24
               try clear hf24
               try clear p25
               try clear q25
               try clear c26
               try clear c26b0
               try clear p33
               try clear q33
               try clear hx33
               try clear hf33
               try clear p34
               try clear q34
               try clear c35
               try clear c35b0
               try clear c43
               try clear c43b0
               try clear c43b1
               try clear c45
               try clear c45b0
               try clear c45b1
               try clear c46
               try clear c46b0
               try clear c46b1
               try clear c47
               try clear c47b0
               try clear c47b1
               try clear hx198_0
               try clear hx198_1
               try clear hx198_2
               try clear hx199_0
               try clear hx200_0
               try clear hx201_0
               try clear hx201_1
               try clear hx201_2
               try clear hx204_0
               try clear hx205_0
               try clear hx205_1
               try clear hx205_2
               try clear hx208_0
               try clear hx24_0
               try clear hx33_0
               try clear p1
               try clear p19
               try clear p198
               try clear p199
               try clear p2
               try clear p20
               try clear p200
               try clear p201
               try clear p204
               try clear p205
               try clear p208
               try clear p24
               try clear p25
               try clear p3
               try clear p33
               try clear p34
               try clear p6
               try clear q1
               try clear q19
               try clear q198
               try clear q199
               try clear q2
               try clear q20
               try clear q200
               try clear q201
               try clear q204
               try clear q205
               try clear q208
               try clear q24
               try clear q25
               try clear q3
               try clear q33
               try clear q34
               obtain ⟨kq, x12_43, rfl, HA, HJ43, HO_5, HO_6, HO_8, HB⟩ := hcut
               cases kq with
               | zero => exact absurd HA.out (by simp [barrowref01_sweep.j4])
               | succ kj43 =>
                have H := HA.out
                clear HA
                simp only [barrowref01_sweep.j4] at H
                have HC49 := Aside0.mk H
                clear H
                go_upto_region 22 with (fail)
                go_cut [102] (fun v102 wc => ∃ (kq : Nat) (x102_48 : Bool), v102 = .bool x102_48 ∧ Aside0 (barrowref01_sweep.j5 kq l0 a1 t190 x6_2 x7_2 x8_1 x9_2 ((rd_T76 t190 x9_1).f0) x102_48 = some r) ∧ Aside0 (kq ≤ kj43) ∧ Aside0 (Kd.V k76 76 wc w.heap.size (fun k_ => some k_ ≠ (v194 : Value).ownBlock ∧ some k_ ≠ (u8 : Value).ownBlock) (.slice (some ad196) t190.length co14) t190) ∧ Aside0 (Kd.R (Kd.int .i64) 3 wc w.heap.size (fun _ => True) v194 x6_2) ∧ Aside0 (Kd.R k32 32 wc w.heap.size (fun _ => True) u8 x8_1) ∧ Aside0 (Below w.heap.size w wc))
                case first =>
                 have H := HC49.out
                 clear HC49
                 by_cases c50 : x12_43 = true
                 ·subst c50
                  have H1 : (barrowref01_sweep.j5 kj43 l0 a1 t190 x6_2 x7_2 x8_1 x9_2 ((rd_T76 t190 x9_1).f0) (decide (x9_2 ≥ (t190.length : Int)))) = some r := by rw [if_pos rfl] at H; exact H
                  clear H
                  have H := H1
                  clear H1
                  have H' := Aside0.mk H
                  clear H
                  go_wp2
                  go_meet
                  case rel => exact ⟨_, (decide (x9_2 ≥ (t190.length : Int))), (by first | rfl | (simp; done) | (simp [*]; done)), H', ⟨by have := HK1.out; have := HK2.out; have := HJ14.out; have := HJ41.out; have := HJ43.out; first | omega | exact Nat.le_refl _⟩, ⟨by (with_reducible repeat (first | apply Kd.V_alloc | apply Kd.V_drewN | apply Kd.V_drew)); exact HO_5.out⟩, ⟨by (with_reducible repeat (first | apply Kd.R_alloc | apply Kd.R_drewN | apply Kd.R_drew)); exact HO_6.out⟩, ⟨by (with_reducible repeat (first | apply Kd.R_alloc | apply Kd.R_drewN | apply Kd.R_drew)); exact HO_8.out⟩, ⟨by repeat (first | (with_reducible first | exact HB.out | apply below_alloc | apply pw_below_drewN | apply below_drew1) | exact HB.out)⟩⟩
                 ·replace c50 := Bool.eq_false_iff.mpr c50
                  subst c50
                  have H1 : (barrowref01_sweep.j5 kj43 l0 a1 t190 x6_2 x7_2 x8_1 x9_2 ((rd_T76 t190 x9_1).f0) true) = some r := by rw [if_neg (show ¬ (false = true) by decide)] at H; exact H
                  clear H
                  have H := H1
                  clear H1
                  have H' := Aside0.mk H
                  clear H
                  go_wp2
                  go_meet
                  case rel => exact ⟨_, (true), (by first | rfl | (simp; done) | (simp [*]; done)), H', ⟨by have := HK1.out; have := HK2.out; have := HJ14.out; have := HJ41.out; have := HJ43.out; first | omega | exact Nat.le_refl _⟩, ⟨by (with_reducible repeat (first | apply Kd.V_alloc | apply Kd.V_drewN | apply Kd.V_drew)); exact HO_5.out⟩, ⟨by (with_reducible repeat (first | apply Kd.R_alloc | apply Kd.R_drewN | apply Kd.R_drew)); exact HO_6.out⟩, ⟨by (with_reducible repeat (first | apply Kd.R_alloc | apply Kd.R_drewN | apply Kd.R_drew)); exact HO_8.out⟩, ⟨by repeat (first | (with_reducible first | exact HB.out | apply below_alloc | apply pw_below_drewN | apply below_drew1) | exact HB.out)⟩⟩
                case rest =>
                 clear HC49
                 try clear c1
                 try clear p1
                 try clear q1
                 try clear hx1
                 try clear c2
                 try clear p2
                 try clear q2
                 try clear hx2
                 try clear qi2
                 try clear hf2
                 try clear c3
                 try clear p3
                 try clear q3
                 try clear hx3
                 try clear hf3
                 try clear c4
                 try clear c5
                 try clear p6
                 try clear c18
                 try clear c19
                 try clear p19
                 try clear q19
                 try clear hx19
                 try clear c20
                 try clear p20
                 try clear q20
                 try clear hx20
                 try clear qi20
                 try clear c21
                 try clear c22
                 try clear c23
                 try clear c23b0
                 try clear p24
                 try clear q24
                 try clear hx24
                 try clear hf24
                 try clear p25
                 try clear q25
                 try clear c26
                 try clear c26b0
                 try clear p33
                 try clear q33
                 try clear hx33
                 try clear hf33
                 try clear p34
                 try clear q34
                 try clear c35
                 try clear c35b0
                 try clear c43
                 try clear c43b0
                 try clear c43b1
                 try clear c45
                 try clear c45b0
                 try clear c45b1
                 try clear c46
                 try clear c46b0
                 try clear c46b1
                 try clear c47
                 try clear c47b0
                 try clear c47b1
                 try clear c50
                 try clear hx198_0
                 try clear hx198_1
                 try clear hx198_2
                 try clear hx199_0
                 try clear hx200_0
                 try clear hx201_0
                 try clear hx201_1
                 try clear hx201_2
                 try clear hx204_0
                 try clear hx205_0
                 try clear hx205_1
                 try clear hx205_2
                 try clear hx208_0
                 try clear hx24_0
                 try clear hx33_0
                 try clear p1
                 try clear p19
                 try clear p198
                 try clear p199
                 try clear p2
                 try clear p20
                 try clear p200
                 try clear p201
                 try clear p204
                 try clear p205
                 try clear p208
                 try clear p24
                 try clear p25
                 try clear p3
                 try clear p33
                 try clear p34
                 try clear p6
                 try clear q1
                 try clear q19
                 try clear q198
                 try clear q199
                 try clear q2
                 try clear q20
                 try clear q200
                 try clear q201
                 try clear q204
                 try clear q205
                 try clear q208
                 try clear q24
                 try clear q25
                 try clear q3
                 try clear q33
                 try clear q34
                 obtain ⟨kq, x102_48, rfl, HA, HJ48, HO_5, HO_6, HO_8, HB⟩ := hcut
                 cases kq with
                 | zero => exact absurd HA.out (by simp [barrowref01_sweep.j5])
                 | succ kj48 =>
                  have H := HA.out
                  clear HA
                  simp only [barrowref01_sweep.j5] at H
                  by_cases c51 : x102_48 = true
                  ·subst c51
                   have H1 : (barrowref01_sweep.l0 kj48 l0 a1 t190 x6_2 x7_2 x8_1 x9_2) = some r := by rw [if_pos rfl] at H; exact H
                   clear H
                   have H := H1
                   clear H1
                   have H' := Aside0.mk H
                   clear H
                   go_wp2
                   go_roundg kj48
                   case measure => have := HK1.out; have := HK2.out; have := HJ14.out; have := HJ41.out; have := HJ43.out; have := HJ48.out; omega
                   case rel => exact ⟨(x6_2), (x7_2), (x8_1), (x9_2), (by first | rfl | (simp; done) | (simp [*]; done)), (by first | rfl | (simp; done) | (simp [*]; done)), H', ⟨by have := HK1.out; have := HK2.out; have := HJ14.out; have := HJ41.out; have := HJ43.out; have := HJ48.out; omega⟩, ⟨by (with_reducible repeat (first | apply Kd.V_alloc | apply Kd.V_drewN | apply Kd.V_drew)); exact HO_5.out⟩, ⟨by (with_reducible repeat (first | apply Kd.R_alloc | apply Kd.R_drewN | apply Kd.R_drew)); exact HO_6.out⟩, ⟨by (with_reducible repeat (first | apply Kd.R_alloc | apply Kd.R_drewN | apply Kd.R_drew)); exact HO_8.out⟩, ⟨by repeat (first | (with_reducible first | exact HB.out | apply below_alloc | apply pw_below_drewN | apply below_drew1) | exact HB.out)⟩⟩
                  ·replace c51 := Bool.eq_false_iff.mpr c51
                   subst c51
                   have H1 : (if 0 ≤ x9_2 then (if x9_2 < (t190.length : Int) then (if (x8_1.length : Int) > 0 then (if 0 ≤ (wrap64 ((x8_1.length : Int) - 1)) then (if (wrap64 ((x8_1.length : Int) - 1)) < (x8_1.length : Int) then (if ((rd_T32 x8_1 (wrap64 ((x8_1.length : Int) - 1))).f1) = (wrap64 (((rd_T76 t190 x9_1).f0) - 1)) then (barrowref01_sweep.l0 kj48 l0 a1 t190 x6_2 x7_2 (x8_1.set ((wrap64 ((x8_1.length : Int) - 1)) : Int).toNat (⟨(rd_T32 x8_1 (wrap64 ((x8_1.length : Int) - 1))).f0, wrap64 (((rd_T76 t190 x9_2).f0) - 1)⟩ : S32)) x9_2) else (if x8_1.length < 8796093022208 then (barrowref01_sweep.l0 kj48 l0 a1 t190 x6_2 x7_2 (x8_1 ++ [(⟨((rd_T76 t190 x9_1).f0), wrap64 (((rd_T76 t190 x9_2).f0) - 1)⟩ : S32)]) x9_2) else (none))) else (none)) else (none)) else (if x8_1.length < 8796093022208 then (barrowref01_sweep.l0 kj48 l0 a1 t190 x6_2 x7_2 (x8_1 ++ [(⟨((rd_T76 t190 x9_1).f0), wrap64 (((rd_T76 t190 x9_2).f0) - 1)⟩ : S32)]) x9_2) else (none))) else (none)) else (none)) = some r := by rw [if_neg (show ¬ (false = true) by decide)] at H; exact H
                   clear H
                   have H := H1
                   clear H1
                   by_cases c52 : 0 ≤ x9_2
                   ·rw [if_pos c52] at H
                    have c52b0 : decide (0 ≤ x9_2) = true := decide_eq_true c52
                    clear c52
                    by_cases c53 : x9_2 < (t190.length : Int)
                    ·rw [if_pos c53] at H
                     have c53b0 : decide (x9_2 < (t190.length : Int)) = true := decide_eq_true c53
                     clear c53
                     by_cases c54 : (x8_1.length : Int) > 0
                     ·rw [if_pos c54] at H
                      have c54b0 : decide (0 < (x8_1.length : Int)) = true := decide_eq_true c54
                      have c54b1 : decide (0 < x8_1.length) = true := decide_eq_true (by omega)
                      clear c54
                      obtain ⟨ji55, hji55⟩ : ∃ j_ : Int, (wrap64 ((x8_1.length : Int) - 1)) = j_ := ⟨_, rfl⟩
                      replace H : (if 0 ≤ (ji55) then (if (ji55) < (x8_1.length : Int) then (if ((rd_T32 x8_1 (ji55)).f1) = (wrap64 (((rd_T76 t190 x9_1).f0) - 1)) then (barrowref01_sweep.l0 kj48 l0 a1 t190 x6_2 x7_2 (x8_1.set ((ji55) : Int).toNat (⟨(rd_T32 x8_1 (ji55)).f0, wrap64 (((rd_T76 t190 x9_2).f0) - 1)⟩ : S32)) x9_2) else (if x8_1.length < 8796093022208 then (barrowref01_sweep.l0 kj48 l0 a1 t190 x6_2 x7_2 (x8_1 ++ [(⟨((rd_T76 t190 x9_1).f0), wrap64 (((rd_T76 t190 x9_2).f0) - 1)⟩ : S32)]) x9_2) else (none))) else (none)) else (none)) = some r := by first | (rw [hji55] at H; exact H) | (simp only [hji55] at H ⊢; exact H)
                      have hji55w : (IntKind.i64.wrap ((x8_1.length : Int) - 1)) = ji55 := (i64_w _).trans hji55
                      by_cases c56 : 0 ≤ (ji55)
                      ·rw [if_pos c56] at H
                       have c56b0 : decide (0 ≤ (ji55)) = true := decide_eq_true c56
                       clear c56
                       by_cases c57 : (ji55) < (x8_1.length : Int)
                       ·rw [if_pos c57] at H
                        have c57b0 : decide ((ji55) < (x8_1.length : Int)) = true := decide_eq_true c57
                        clear c57
                        by_cases c58 : ((rd_T32 x8_1 (ji55)).f1) = (wrap64 (((rd_T76 t190 x9_1).f0) - 1))
                        ·rw [if_pos c58] at H
                         have c58b0 : (((rd_T32 x8_1 (ji55)).f1) == (wrap64 (((rd_T76 t190 x9_1).f0) - 1))) = true := beq_iff_eq.mpr c58
                         have c58b1 : (((rd_T32 x8_1 (ji55)).f1) != (wrap64 (((rd_T76 t190 x9_1).f0) - 1))) = false := bne_eq_false_iff_eq.mpr c58
                         clear c58
                         obtain ⟨y211, hy211⟩ : ∃ y_ : List (S32), y_ = (x8_1.set ((ji55) : Int).toNat (⟨(rd_T32 x8_1 (ji55)).f0, wrap64 (((rd_T76 t190 x9_2).f0) - 1)⟩ : S32)) := ⟨_, rfl⟩
                         replace H : (barrowref01_sweep.l0 kj48 l0 a1 t190 x6_2 x7_2 y211 x9_2) = some r := by first | (rw [hy211]; with_reducible exact H) | (have H2_ := (Option.bind_some _ _).symm.trans H; rw [hy211]; with_reducible exact H2_) | (have H2_ := (Option.bind_some _ _).symm.trans H; with_reducible exact H2_) | with_reducible exact H | (rw [hy211]; exact H) | exact H
                         have Ny211 := Aside0.mk hy211
                         clear hy211
                         have H' := Aside0.mk H
                         clear H
                         have p209 : 0 ≤ (x9_2 : Int) := of_decide_eq_true (by first | (with_reducible assumption) | assumption)
                         have q209 : x9_2 < (t190.length : Int) := of_decide_eq_true (by first | (with_reducible assumption) | assumption)
                         obtain ⟨ad209, e209, hx209_0, hx209_1, hx209_2⟩ := at_T76 (Kd.V_reads' HO_5.out).2.2 x9_2 p209 q209
                         obtain rfl : ad196 = ad209 := (by injection e209)
                         replace p209 := eq_true p209
                         replace q209 := eq_true q209
                         obtain ⟨Ao60, co60, eo60⟩ := Kd.R_slice HO_8.out
                         subst eo60
                         have p210 : 0 ≤ ((ji55) : Int) := of_decide_eq_true (by first | (with_reducible assumption) | assumption)
                         have q210 : (ji55) < (x8_1.length : Int) := of_decide_eq_true (by first | (with_reducible assumption) | assumption)
                         obtain ⟨ad210, e210, hx210_0, hx210_1⟩ := at_T32 (Kd.R_reads' HO_8.out).2.2 (ji55) p210 q210
                         cases e210
                         replace p210 := eq_true p210
                         replace q210 := eq_true q210
                         have p59 : 0 ≤ ((ji55) : Int) := of_decide_eq_true (by first | (with_reducible assumption) | assumption)
                         have q59 : ((ji55) : Int) < ((x8_1.length : Int) : Int) := of_decide_eq_true (by first | (with_reducible assumption) | assumption)
                         obtain ⟨go59, co59, eo59, gb59, gl59, cl59, HG59⟩ := Kd.R_form HO_8.out (by omega)
                         (first | cases eo59 | (injection eo59 with ea_ en_ ec_; (first | subst ea_ | (injection ea_ with ea_; subst ea_)); subst ec_; clear en_))
                         have GB59 := Aside0.mk gb59
                         have GG59 := Aside0.mk HG59
                         clear gb59 gl59 HG59
                         (first | simp only [add_plain] at hx210_0 | skip)
                         (first | simp only [add_plain] at hx210_1 | skip)
                         obtain ⟨ce59, hcl59, hM59, hcc59, hfr59⟩ := Kd.R_elem HO_8.out z32 ((ji55) : Int) p59 q59
                         obtain rfl := k32_openM hM59
                         have hx59_0 : wc.cell? ⟨go59, ((ji55) : Int).toNat * 2, none⟩ = some (.int .i64 ((rd_T32 x8_1 (ji55)).f0)) := hcc59 0 _ rfl
                         have hx59_1 : wc.cell? ⟨go59, ((ji55) : Int).toNat * 2 + 1, none⟩ = some (.int .i64 ((rd_T32 x8_1 (ji55)).f1)) := hcc59 1 _ rfl
                         have hf59_0 : wc.frozen? ⟨go59, ((ji55) : Int).toNat * 2, none⟩ = false := hfr59 0
                         have hf59_1 : wc.frozen? ⟨go59, ((ji55) : Int).toNat * 2 + 1, none⟩ = false := hfr59 1
                         clear hcl59 hcc59 hfr59 hM59
                         replace p59 := eq_true p59
                         replace q59 := eq_true q59
                         have HX61 := Aside0.mk (show Kd.R k32 32 wc w.heap.size (fun _ => True) (.slice (some ⟨go59, 0, none⟩) x8_1.length co60) x8_1 from (by (with_reducible repeat (first | apply Kd.R_alloc | apply Kd.R_drewN | apply Kd.R_drew)); exact HO_8.out))
                         obtain ⟨ce61, hcl61, hM61, hcc61, hfr61⟩ := Kd.R_elem HX61.out z32 ((ji55) : Int) (of_decide_eq_true (by first | (with_reducible assumption) | assumption)) (by have h_ : ((ji55) : Int) < ((x8_1.length : Int) : Int) := of_decide_eq_true (by first | (with_reducible assumption) | assumption); first | exact h_ | (have e_ := (Kd.R_reads' HO_8.out).1; omega) | simpa using h_)
                         obtain rfl := k32_openM hM61
                         have HP61 := Kd.R_seg HX61.out ((ji55) : Int) (of_decide_eq_true (by first | (with_reducible assumption) | assumption)) (by have h_ : ((ji55) : Int) < ((x8_1.length : Int) : Int) := of_decide_eq_true (by first | (with_reducible assumption) | assumption); first | exact h_ | (have e_ := (Kd.R_reads' HO_8.out).1; omega) | simpa using h_) (seg := [.int .i64 (wrap64 (((rd_T76 t190 x9_2).f0) - 1))]) (j := 1) hcl61 hcc61 (show 2 ≤ 2 from by decide) (x' := (⟨(rd_T32 x8_1 (ji55)).f0, wrap64 (((rd_T76 t190 x9_2).f0) - 1)⟩ : S32)) (k32_mkM _ _ _ (⟨(rd_T32 x8_1 (ji55)).f0, wrap64 (((rd_T76 t190 x9_2).f0) - 1)⟩ : S32) ) (fun _ hk => hk)
                         have hx61_1 := hcc61 1 _ rfl
                         (try simp only [show (k32).sz = 2 from rfl, Nat.mul_one, Nat.add_zero] at hx61_1)
                         have hf61_1 := hfr61 1
                         (try simp only [show (k32).sz = 2 from rfl, Nat.mul_one, Nat.add_zero] at hf61_1)
                         clear hcl61 hcc61 hfr61 hM61
                         go_wp2_with (first | ((with_reducible refine gate_store (t := 3) (p := 130) rfl ?_); refine store_event (t := 3) (p := 130) (v := ?vo_w62) (w1 := (wc.setCell ⟨go59, ((ji55) : Int).toNat * 2 + 1, none⟩ (.int .i64 (wrap64 (((rd_T76 t190 x9_2).f0) - 1))))) ?hg ?ho ?hn ?hr ?_; (case ho => rfl); (case hg => rfl); (case hn => rfl); (case hr => first | (go_simp; done) | (go_simp; rfl)); intro w62 hw; have hg : wc.grownBy w62 (some go59) := (by rw [hw]; exact HP61.2); have hp_ : Kd.R k32 32 w62 w.heap.size (fun _ => True) (.slice (some ⟨go59, 0, none⟩) x8_1.length co60) y211 := (by rw [hw, Ny211.out]; exact HP61.1); clear HP61; have n0_ := Aside0.mk (Kd.V_afterv (v := (.slice (some ⟨go59, 0, none⟩) x8_1.length co60)) (v1 := (.slice (some ⟨go59, 0, none⟩) x8_1.length co60)) (ok := (fun k_ => some k_ ≠ (v194 : Value).ownBlock)) (by (with_reducible repeat (first | apply Kd.V_alloc | apply Kd.V_drewN | apply Kd.V_drew)); exact HO_5.out) hg (.inl rfl)); have n1_ := Aside0.mk (Kd.R_over' (v := (.slice (some ⟨go59, 0, none⟩) x8_1.length co60)) (by (with_reducible repeat (first | apply Kd.R_alloc | apply Kd.R_drewN | apply Kd.R_drew)); exact HO_6.out) (Kd.R_typed HO_8.out) (by decide) hg); have n2_ := Aside0.mk (hp_); have n3_ := Aside0.mk ((by rw [hw]; exact below_set (HB.out) GB59.out : Below w.heap.size w w62)); clear HO_5; clear HO_6; clear HO_8; clear HB; have HO_5 := n0_; have HO_6 := n1_; have HO_8 := n2_; have HB := n3_; clear n0_ n1_ n2_ n3_; clear hg hw hp_))
                         go_roundg kj48
                         case measure => have := HK1.out; have := HK2.out; have := HJ14.out; have := HJ41.out; have := HJ43.out; have := HJ48.out; omega
                         case rel => exact ⟨(x6_2), (x7_2), (y211), (x9_2), (by first | rfl | (simp; done) | (simp [*]; done)), (by first | rfl | (simp; done) | (simp [*]; done)), H', ⟨by have := HK1.out; have := HK2.out; have := HJ14.out; have := HJ41.out; have := HJ43.out; have := HJ48.out; omega⟩, ⟨by (with_reducible repeat (first | apply Kd.V_alloc | apply Kd.V_drewN | apply Kd.V_drew)); exact HO_5.out⟩, ⟨by (with_reducible repeat (first | apply Kd.R_alloc | apply Kd.R_drewN | apply Kd.R_drew)); exact HO_6.out⟩, ⟨by (with_reducible repeat (first | apply Kd.R_alloc | apply Kd.R_drewN | apply Kd.R_drew)); exact HO_8.out⟩, ⟨by repeat (first | (with_reducible first | exact HB.out | apply below_alloc | apply pw_below_drewN | apply below_drew1) | exact HB.out)⟩⟩
                        ·rw [if_neg c58] at H
                         have c58b0 : (((rd_T32 x8_1 (ji55)).f1) == (wrap64 (((rd_T76 t190 x9_1).f0) - 1))) = false := beq_eq_false_iff_ne.mpr c58
                         have c58b1 : (((rd_T32 x8_1 (ji55)).f1) != (wrap64 (((rd_T76 t190 x9_1).f0) - 1))) = true := bne_iff_ne.mpr c58
                         by_cases c63 : x8_1.length < 8796093022208
                         ·rw [if_pos c63] at H
                          have LMc63 := Aside0.mk c63
                          clear c63
                          obtain ⟨y212, hy212⟩ : ∃ y_ : List (S32), y_ = (x8_1 ++ [(⟨((rd_T76 t190 x9_1).f0), wrap64 (((rd_T76 t190 x9_2).f0) - 1)⟩ : S32)]) := ⟨_, rfl⟩
                          replace H : (barrowref01_sweep.l0 kj48 l0 a1 t190 x6_2 x7_2 y212 x9_2) = some r := by first | (rw [hy212]; with_reducible exact H) | (have H2_ := (Option.bind_some _ _).symm.trans H; rw [hy212]; with_reducible exact H2_) | (have H2_ := (Option.bind_some _ _).symm.trans H; with_reducible exact H2_) | with_reducible exact H | (rw [hy212]; exact H) | exact H
                          have Ny212 := Aside0.mk hy212
                          clear hy212
                          have H' := Aside0.mk H
                          clear H
                          have p209 : 0 ≤ (x9_2 : Int) := of_decide_eq_true (by first | (with_reducible assumption) | assumption)
                          have q209 : x9_2 < (t190.length : Int) := of_decide_eq_true (by first | (with_reducible assumption) | assumption)
                          obtain ⟨ad209, e209, hx209_0, hx209_1, hx209_2⟩ := at_T76 (Kd.V_reads' HO_5.out).2.2 x9_2 p209 q209
                          obtain rfl : ad196 = ad209 := (by injection e209)
                          replace p209 := eq_true p209
                          replace q209 := eq_true q209
                          obtain ⟨Ao64, co64, eo64⟩ := Kd.R_slice HO_8.out
                          subst eo64
                          have p210 : 0 ≤ ((ji55) : Int) := of_decide_eq_true (by first | (with_reducible assumption) | assumption)
                          have q210 : (ji55) < (x8_1.length : Int) := of_decide_eq_true (by first | (with_reducible assumption) | assumption)
                          obtain ⟨ad210, e210, hx210_0, hx210_1⟩ := at_T32 (Kd.R_reads' HO_8.out).2.2 (ji55) p210 q210
                          cases e210
                          replace p210 := eq_true p210
                          replace q210 := eq_true q210
                          go_wp2_with (first | ((with_reducible refine gate_builtin (b := .append) (xs := #[.tmp 131, .tmp 135]) rfl ?_); (try (refine gate_guard (by rfl) ?_; dsimp only)); at_builtin; refine Kd.R_append k32 (w0 := w) w.heap.size rfl (.tmp 131) (.tmp 135) 22 32 (.agg #[(.int .i64 0), (.int .i64 0)]) 16 rfl Tryd.underlying22 info32 rfl (by decide) (by omega) (.slice (some ad210) x8_1.length co64) x8_1 (⟨((rd_T76 t190 x9_1).f0), wrap64 (((rd_T76 t190 x9_2).f0) - 1)⟩ : S32) [.int .i64 ((rd_T76 t190 x9_1).f0), .int .i64 (wrap64 (((rd_T76 t190 x9_2).f0) - 1))] (fun _ => True) (fun _ => False) rfl rfl ?aP (fun _ hk => hk.elim) ?aF ?aO ?aB ?aS ?aL ?_; (case aP => exact k32_mkM _ _ _ (⟨((rd_T76 t190 x9_1).f0), wrap64 (((rd_T76 t190 x9_2).f0) - 1)⟩ : S32)); (case aB => exact (by repeat (first | (with_reducible first | exact HB.out | apply below_alloc | apply pw_below_drewN | apply below_drew1) | exact HB.out))); (case aF => exact (fun _ _ => trivial)); (case aO => exact (by (with_reducible repeat (first | apply Kd.R_alloc | apply Kd.R_drewN | apply Kd.R_drew)); exact HO_8.out)); (case aS => exact (below_size (by repeat (first | (with_reducible first | exact HB.out | apply below_alloc | apply pw_below_drewN | apply below_drew1) | exact HB.out)))); (case aL => have := LMc63.out; omega); intro v213 w65 ho hb hg hat; rw [← Ny212.out] at ho; have n0_ := Aside0.mk (Kd.V_afterv (ok := (fun k_ => some k_ ≠ (v194 : Value).ownBlock)) (by (with_reducible repeat (first | apply Kd.V_alloc | apply Kd.V_drewN | apply Kd.V_drew)); exact HO_5.out) hg hat); have n1_ := Aside0.mk (Kd.R_over' (by (with_reducible repeat (first | apply Kd.R_alloc | apply Kd.R_drewN | apply Kd.R_drew)); exact HO_6.out) (Kd.R_typed (by (with_reducible repeat (first | apply Kd.R_alloc | apply Kd.R_drewN | apply Kd.R_drew)); exact HO_8.out)) (by decide) hg); have n2_ := Aside0.mk (hb); have n3_ := Aside0.mk (ho); clear HO_5; clear HO_6; clear HB; clear HO_8; have HO_5 := n0_; have HO_6 := n1_; have HB := n2_; have HO214 := n3_; clear n0_ n1_ n2_ n3_; clear ho hb hg hat))
                          go_roundg kj48
                          case measure => have := HK1.out; have := HK2.out; have := HJ14.out; have := HJ41.out; have := HJ43.out; have := HJ48.out; omega
                          case rel => exact ⟨(x6_2), (x7_2), (y212), (x9_2), (by first | rfl | (simp; done) | (simp [*]; done)), (by first | rfl | (simp; done) | (simp [*]; done)), H', ⟨by have := HK1.out; have := HK2.out; have := HJ14.out; have := HJ41.out; have := HJ43.out; have := HJ48.out; omega⟩, ⟨by (with_reducible repeat (first | apply Kd.V_alloc | apply Kd.V_drewN | apply Kd.V_drew)); exact HO_5.out⟩, ⟨by (with_reducible repeat (first | apply Kd.R_alloc | apply Kd.R_drewN | apply Kd.R_drew)); exact HO_6.out⟩, ⟨by (with_reducible repeat (first | apply Kd.R_alloc | apply Kd.R_drewN | apply Kd.R_drew)); exact HO214.out⟩, ⟨by repeat (first | (with_reducible first | exact HB.out | apply below_alloc | apply pw_below_drewN | apply below_drew1) | exact HB.out)⟩⟩
                         ·rw [if_neg c63] at H
                          exact absurd H (by simp)
                       ·rw [if_neg c57] at H
                        exact absurd H (by simp)
                      ·rw [if_neg c56] at H
                       exact absurd H (by simp)
                     ·rw [if_neg c54] at H
                      have c54b0 : decide (0 < (x8_1.length : Int)) = false := decide_eq_false c54
                      have c54b1 : decide (0 < x8_1.length) = false := decide_eq_false (by omega)
                      clear c54
                      by_cases c66 : x8_1.length < 8796093022208
                      ·rw [if_pos c66] at H
                       have LMc66 := Aside0.mk c66
                       clear c66
                       obtain ⟨y215, hy215⟩ : ∃ y_ : List (S32), y_ = (x8_1 ++ [(⟨((rd_T76 t190 x9_1).f0), wrap64 (((rd_T76 t190 x9_2).f0) - 1)⟩ : S32)]) := ⟨_, rfl⟩
                       replace H : (barrowref01_sweep.l0 kj48 l0 a1 t190 x6_2 x7_2 y215 x9_2) = some r := by first | (rw [hy215]; with_reducible exact H) | (have H2_ := (Option.bind_some _ _).symm.trans H; rw [hy215]; with_reducible exact H2_) | (have H2_ := (Option.bind_some _ _).symm.trans H; with_reducible exact H2_) | with_reducible exact H | (rw [hy215]; exact H) | exact H
                       have Ny215 := Aside0.mk hy215
                       clear hy215
                       have H' := Aside0.mk H
                       clear H
                       have p209 : 0 ≤ (x9_2 : Int) := of_decide_eq_true (by first | (with_reducible assumption) | assumption)
                       have q209 : x9_2 < (t190.length : Int) := of_decide_eq_true (by first | (with_reducible assumption) | assumption)
                       obtain ⟨ad209, e209, hx209_0, hx209_1, hx209_2⟩ := at_T76 (Kd.V_reads' HO_5.out).2.2 x9_2 p209 q209
                       obtain rfl : ad196 = ad209 := (by injection e209)
                       replace p209 := eq_true p209
                       replace q209 := eq_true q209
                       obtain ⟨Ao67, co67, eo67⟩ := Kd.R_slice HO_8.out
                       subst eo67
                       go_wp2_with (first | ((with_reducible refine gate_builtin (b := .append) (xs := #[.tmp 131, .tmp 135]) rfl ?_); (try (refine gate_guard (by rfl) ?_; dsimp only)); at_builtin; refine Kd.R_append k32 (w0 := w) w.heap.size rfl (.tmp 131) (.tmp 135) 22 32 (.agg #[(.int .i64 0), (.int .i64 0)]) 16 rfl Tryd.underlying22 info32 rfl (by decide) (by omega) (.slice Ao67 x8_1.length co67) x8_1 (⟨((rd_T76 t190 x9_1).f0), wrap64 (((rd_T76 t190 x9_2).f0) - 1)⟩ : S32) [.int .i64 ((rd_T76 t190 x9_1).f0), .int .i64 (wrap64 (((rd_T76 t190 x9_2).f0) - 1))] (fun _ => True) (fun _ => False) rfl rfl ?aP (fun _ hk => hk.elim) ?aF ?aO ?aB ?aS ?aL ?_; (case aP => exact k32_mkM _ _ _ (⟨((rd_T76 t190 x9_1).f0), wrap64 (((rd_T76 t190 x9_2).f0) - 1)⟩ : S32)); (case aB => exact (by repeat (first | (with_reducible first | exact HB.out | apply below_alloc | apply pw_below_drewN | apply below_drew1) | exact HB.out))); (case aF => exact (fun _ _ => trivial)); (case aO => exact (by (with_reducible repeat (first | apply Kd.R_alloc | apply Kd.R_drewN | apply Kd.R_drew)); exact HO_8.out)); (case aS => exact (below_size (by repeat (first | (with_reducible first | exact HB.out | apply below_alloc | apply pw_below_drewN | apply below_drew1) | exact HB.out)))); (case aL => have := LMc66.out; omega); intro v216 w68 ho hb hg hat; rw [← Ny215.out] at ho; have n0_ := Aside0.mk (Kd.V_afterv (ok := (fun k_ => some k_ ≠ (v194 : Value).ownBlock)) (by (with_reducible repeat (first | apply Kd.V_alloc | apply Kd.V_drewN | apply Kd.V_drew)); exact HO_5.out) hg hat); have n1_ := Aside0.mk (Kd.R_over' (by (with_reducible repeat (first | apply Kd.R_alloc | apply Kd.R_drewN | apply Kd.R_drew)); exact HO_6.out) (Kd.R_typed (by (with_reducible repeat (first | apply Kd.R_alloc | apply Kd.R_drewN | apply Kd.R_drew)); exact HO_8.out)) (by decide) hg); have n2_ := Aside0.mk (hb); have n3_ := Aside0.mk (ho); clear HO_5; clear HO_6; clear HB; clear HO_8; have HO_5 := n0_; have HO_6 := n1_; have HB := n2_; have HO217 := n3_; clear n0_ n1_ n2_ n3_; clear ho hb hg hat))
                       go_roundg kj48
                       case measure => have := HK1.out; have := HK2.out; have := HJ14.out; have := HJ41.out; have := HJ43.out; have := HJ48.out; omega
                       case rel => exact ⟨(x6_2), (x7_2), (y215), (x9_2), (by first | rfl | (simp; done) | (simp [*]; done)), (by first | rfl | (simp; done) | (simp [*]; done)), H', ⟨by have := HK1.out; have := HK2.out; have := HJ14.out; have := HJ41.out; have := HJ43.out; have := HJ48.out; omega⟩, ⟨by (with_reducible repeat (first | apply Kd.V_alloc | apply Kd.V_drewN | apply Kd.V_drew)); exact HO_5.out⟩, ⟨by (with_reducible repeat (first | apply Kd.R_alloc | apply Kd.R_drewN | apply Kd.R_drew)); exact HO_6.out⟩, ⟨by (with_reducible repeat (first | apply Kd.R_alloc | apply Kd.R_drewN | apply Kd.R_drew)); exact HO217.out⟩, ⟨by repeat (first | (with_reducible first | exact HB.out | apply below_alloc | apply pw_below_drewN | apply below_drew1) | exact HB.out)⟩⟩
                      ·rw [if_neg c66] at H
                       exact absurd H (by simp)
                    ·rw [if_neg c53] at H
                     exact absurd H (by simp)
                   ·rw [if_neg c52] at H
                    exact absurd H (by simp)
      ·rw [if_neg c13] at H
       exact absurd H (by simp)
     ·rw [if_neg c12] at H
      have c12b0 : decide (x9_1 < (t190.length : Int)) = false := decide_eq_false c12
      clear c12
      obtain rfl := Option.some.inj H
      obtain ⟨Ao69, co69, eo69⟩ := Kd.V_slice HO_5.out
      subst eo69
      go_wp2
      go_ret
      exact ⟨_, by first | rfl | (simp [errW_none, errW_some] <;> rfl) | (simp [*, errW_none, errW_some] <;> rfl), by (with_reducible repeat (first | apply Kd.R_alloc | apply Kd.R_drewN | apply Kd.R_drew)); exact HO_8.out, by repeat (first | (with_reducible first | exact HB.out | apply below_alloc | apply pw_below_drewN | apply below_drew1) | exact HB.out)⟩
  ·rw [if_neg c6] at H
   exact absurd H (by simp)
 ·rw [if_neg c5] at H
  exact absurd H (by simp)

end Go.Proofs.YtlmdcpooogaolaaDoor.G

/- The reference's sweep: the set where enough of the lists hold a number. -/
namespace Go.Proofs.YtlmdcpooogaolaaDoor.Pure
open Go.RowKit Go.Proofs.YtlmdcpooogaolaaDoor.G Go.Proofs.YtlmdcpooogaolaaDoorW.PrintWords Go.Proofs.YtlmdcpooogaolaaDoorW.PrintLast Go.Proofs.YtlmdcpooogaolaaDoorW.PrintMore
set_option linter.unusedVariables false

def tot (w : Int) : List S76 → Int
  | [] => 0
  | m :: t => (if m.f1 = w then m.f2 else 0) + tot w t
def held (m : Nat) (l : List S76) : List Int := (List.range m).map (fun w : Nat => tot (w : Int) l)
end Go.Proofs.YtlmdcpooogaolaaDoor.Pure

/- What the reference's sweep answers, as sets: union, meet, minus. -/
namespace Go.Proofs.YtlmdcpooogaolaaDoor.Pure
open Go.RowKit Go.Proofs.YtlmdcpooogaolaaDoor.G Go.Proofs.YtlmdcpooogaolaaDoorW.PrintWords Go.Proofs.YtlmdcpooogaolaaDoorW.PrintLast Go.Proofs.YtlmdcpooogaolaaDoorW.PrintMore
set_option linter.unusedVariables false

abbrev upto (n : Int) (l : List S76) : List S76 := l.filter (fun x => decide (x.f0 ≤ n))
end Go.Proofs.YtlmdcpooogaolaaDoor.Pure

-- PRINTED by print.py (a twelfth state) out of the translation. Not trusted: Lean checks it.
namespace Go.Proofs.YtlmdcpooogaolaaDoor.G
open Go.RowKit Go.Proofs.YtlmdcpooogaolaaDoorW.PrintWords Go.Proofs.YtlmdcpooogaolaaDoorW.PrintLast Go.Proofs.YtlmdcpooogaolaaDoorW.PrintMore
attribute [local go_sem] max2_int min2_int max_two min_two max_three min_three max_four min_four   -- for this text's walks alone
set_option linter.unusedVariables false
set_option linter.unusedSimpArgs false

/-! ### barrowref01_Norm: function 17 -/
def barrowref01_Norm.f (k : Nat) (l0 : List (S32)) : Option ((List (S32))) := (barrowref01_sweep.f k (([l0] : List (List (S32)))) 1).bind fun t221 => (some t221)
theorem barrowref01_Norm.mono : ∀ a0 k, LeO (barrowref01_Norm.f k a0) (barrowref01_Norm.f (k + 1) a0) := by
 intro a0 k
 unfold barrowref01_Norm.f
 repeat' first
   | (with_reducible exact barrowref01_sweep.mono _ _ _)
   | (with_reducible exact LeO.refl _)
   | (with_reducible exact LeO.none _)
   | (with_reducible refine LeO.ite ?_ ?_)
   | (with_reducible refine LeO.bind ?_ (fun _ => ?_))
   | exact barrowref01_sweep.mono _ _ _
   | exact LeO.none _
   | refine LeO.ite ?_ ?_
   | refine LeO.bind ?_ (fun _ => ?_)
set_option maxHeartbeats 8000000 in
set_option maxRecDepth 100000 in
theorem barrowref01_Norm.calls (k : Nat) (P0_ : Nat → Prop) (A0 : Option Addr) (c0 : Nat) (l0 : List (S32)) (r : List (S32)) (w : World) (hs0 : Kd.V k32 32 w w.heap.size (fun k_ => P0_ k_) (.slice A0 l0.length c0) l0) (h : barrowref01_Norm.f k l0 = some r) :
  Calls Tryd.prog 17 #[.slice A0 l0.length c0] w fun e w' => ∃ v0_ : Value, e = .returned (v0_) ∧ Kd.R k32 32 w' w.heap.size (fun k_ => (w.heap.size ≤ k_)) v0_ r ∧ Below w.heap.size w w' := by
 have HO0 := Aside0.mk (show Kd.V k32 32 w w.heap.size (fun k_ => (P0_ k_ ∨ w.heap.size ≤ k_)) (.slice A0 l0.length c0) l0 from Kd.V_mono hs0 (fun k_ hk => .inl hk))
 have HB := Aside0.mk (Below.refl w.heap.size w)
 have H : ((barrowref01_sweep.f k (([l0] : List (List (S32)))) 1).bind fun t221 => (some t221)) = some r := h
 clear h
 obtain ⟨y218, hy218⟩ : ∃ y_ : List (List (S32)), y_ = (([l0] : List (List (S32)))) := ⟨_, rfl⟩
 replace H : ((barrowref01_sweep.f k y218 1).bind fun t221 => (some t221)) = some r := by first | (rw [hy218]; with_reducible exact H) | (have H2_ := (Option.bind_some _ _).symm.trans H; rw [hy218]; with_reducible exact H2_) | (have H2_ := (Option.bind_some _ _).symm.trans H; with_reducible exact H2_) | with_reducible exact H | (rw [hy218]; exact H) | exact H
 have Ny218 := Aside0.mk hy218
 clear hy218
 replace H := Option.bind_eq_some_iff.mp H
 obtain ⟨t221, A20, H⟩ := H
 replace H : (some t221) = some r := H
 have A2 := Aside0.mk A20
 clear A20
 obtain rfl := Option.some.inj H
 go_enter Tryd.func17, Tryd.ntmps17
 go_wp2_with (first | ((with_reducible refine gate_dst (N := 4) rfl ?_); refine Kd.N_lit (Kd.slice 32 k32) _ 22 ?hg (N' := 4) ?hd (xs := ([l0] : List (List (S32)))) (inner := [.slice A0 l0.length c0]) (ok := (fun k_ => (P0_ k_ ∨ w.heap.size ≤ k_))) (okp := (fun k_ => (P0_ k_ ∨ w.heap.size ≤ k_))) ?hr ?hp (fun _ hk => hk) ((show ∀ k_, w.heap.size ≤ k_ → (fun k_ => (P0_ k_ ∨ w.heap.size ≤ k_)) k_ from fun k_ hk => (.inr (Nat.le_trans (below_size (by repeat (first | (with_reducible first | exact HB.out | apply below_alloc | apply pw_below_drewN | apply below_drew1) | exact HB.out))) hk))) _ (Nat.le_refl _)) (Below.refl _ _) (Nat.le_refl _) (by simp) ?_; (case hd => rfl); (case hg => rfl); (case hr => first | (go_simp; done) | (go_simp; rfl)); (case hp => exact (Reps.one (show Kd.FK (Kd.slice 32 k32) _ _ l0 [.slice A0 l0.length c0] from (Kd.FK_slice_mk (Kd.V_reads' (Kd.V_mono (ok' := (fun k_ => (P0_ k_ ∨ w.heap.size ≤ k_))) (HO0.out) (fun k_ hk => hk))).2.1 (Kd.V_F (Kd.V_mono (ok' := (fun k_ => (P0_ k_ ∨ w.heap.size ≤ k_))) (HO0.out) (fun k_ hk => hk))))) (Reps.none _ _))); intro v219 w3 ho4 hb hg_ hnew_; clear hg_ hnew_; (first | rw [← Ny218.out] at ho4 | (simp only [Int.reduceToNat] at ho4; rw [← Ny218.out] at ho4)); have n0_ := Aside0.mk (Kd.V_elder' (by (with_reducible repeat (first | apply Kd.V_alloc | apply Kd.V_drewN | apply Kd.V_drew)); exact HO0.out) (Kd.N_base ho4) hb); have n1_ := Aside0.mk (Kd.N_lower ho4 (below_size (by repeat (first | (with_reducible first | exact HB.out | apply below_alloc | apply pw_below_drewN | apply below_drew1) | exact HB.out)))); have n2_ := Aside0.mk (below_step (by repeat (first | (with_reducible first | exact HB.out | apply below_alloc | apply pw_below_drewN | apply below_drew1) | exact HB.out)) hb); clear HO0; clear HB; have HO0 := n0_; have HO220 := n1_; have HB := n2_; clear n0_ n1_ n2_; clear hb ho4; obtain ⟨Ao5, co5, eo5⟩ := Kd.N_slice HO220.out; subst eo5) | ((with_reducible refine gate_callee (f := 25) rfl ?_); refine goesL_ (some 5) rfl rfl Tryd.func25 (by kernel_rfl) rfl #[.slice Ao5 y218.length co5, .int .i64 1] rfl (by (try simp only [List.map_toArray, List.map_cons, List.map_nil]); first | done | rfl | (simp only [List.length_drop, List.length_take]; rfl)) ?_; (with_reducible refine (barrowref01_sweep.calls k _ _ y218 1 t221 _ ?side1 ?side2 A2.out).mono ?_); (case side1 => repeat (first | exact (Kd.N_reads' HO220.out).2.2 | (with_reducible refine Kd.C_alloc ?_ _) | (with_reducible refine Kd.C_drewN ?_ _) | (with_reducible refine Kd.C_drew ?_))); (case side2 => exact (Kd.N_reads' HO220.out).2.1); rintro e w6 ⟨v222, rfl, ho0, hb⟩; refine ⟨_, rfl, ?_⟩; have n0_ := Aside0.mk (Kd.V_elder' (by (with_reducible repeat (first | apply Kd.V_alloc | apply Kd.V_drewN | apply Kd.V_drew)); exact HO0.out) (Kd.R_base ho0) hb); have n1_ := Aside0.mk (Kd.N_elder' (by (with_reducible repeat (first | apply Kd.N_alloc | apply Kd.N_drewN | apply Kd.N_drew)); exact HO220.out) (Kd.R_base ho0) hb); have n2_ := Aside0.mk (Kd.R_lower (Kd.R_newM (M := fun k_ => (w.heap.size ≤ k_)) ho0 (below_size (by repeat (first | (with_reducible first | exact HB.out | apply below_alloc | apply pw_below_drewN | apply below_drew1) | exact HB.out))) (fun k_ h_ => h_)) (below_size (by repeat (first | (with_reducible first | exact HB.out | apply below_alloc | apply pw_below_drewN | apply below_drew1) | exact HB.out)))); have n3_ := Aside0.mk (below_step (by repeat (first | (with_reducible first | exact HB.out | apply below_alloc | apply pw_below_drewN | apply below_drew1) | exact HB.out)) hb); clear HO0; clear HO220; clear HB; have HO0 := n0_; have HO220 := n1_; have HO223 := n2_; have HB := n3_; clear n0_ n1_ n2_ n3_; (try clear hb); (try clear hb2); (try clear hk); (try clear hi); (try clear ho0)))
 go_ret
 exact ⟨_, by first | rfl | (simp [errW_none, errW_some] <;> rfl) | (simp [*, errW_none, errW_some] <;> rfl), by (with_reducible repeat (first | apply Kd.R_alloc | apply Kd.R_drewN | apply Kd.R_drew)); exact Kd.R_mono HO223.out (fun _ hk => hk.1), by repeat (first | (with_reducible first | exact HB.out | apply below_alloc | apply pw_below_drewN | apply below_drew1) | exact HB.out)⟩

end Go.Proofs.YtlmdcpooogaolaaDoor.G

/- RfN in plain Lean. -/
namespace Go.Proofs.YtlmdcpooogaolaaDoor.Pure
open Go.RowKit Go.Proofs.YtlmdcpooogaolaaDoor.G Go.Proofs.YtlmdcpooogaolaaDoorW.PrintWords Go.Proofs.YtlmdcpooogaolaaDoorW.PrintLast Go.Proofs.YtlmdcpooogaolaaDoorW.PrintMore
set_option linter.unusedVariables false
end Go.Proofs.YtlmdcpooogaolaaDoor.Pure

-- PRINTED by print.py (a twelfth state) out of the translation. Not trusted: Lean checks it.
namespace Go.Proofs.YtlmdcpooogaolaaDoor.G
open Go.RowKit Go.Proofs.YtlmdcpooogaolaaDoorW.PrintWords Go.Proofs.YtlmdcpooogaolaaDoorW.PrintLast Go.Proofs.YtlmdcpooogaolaaDoorW.PrintMore
attribute [local go_sem] max2_int min2_int max_two min_two max_three min_three max_four min_four   -- for this text's walks alone
set_option linter.unusedVariables false
set_option linter.unusedSimpArgs false

/-! ### barrowref01_Digits: function 20 -/
mutual
def barrowref01_Digits.l0 : Nat → List Int → Int → Int → Option (List Int)
 | 0, _, _, _ => none
 | k + 1, x0, x1, x5 => if x0.length < 140737488355328 then ((some (x0 ++ [(wrap64 (48 + (Int.tmod x1 10))) % 256] : List Int)).bind fun y224 => (if (wrap64 (Int.tdiv x1 10)) = 0 then (barrowref01_Digits.l1 k y224 x5 (wrap64 ((y224.length : Int) - 1))) else (barrowref01_Digits.l0 k y224 (wrap64 (Int.tdiv x1 10)) x5))) else (none)
def barrowref01_Digits.l1 : Nat → List Int → Int → Int → Option (List Int)
 | 0, _, _, _ => none
 | k + 1, x0, x6, x7 => if x6 < x7 then (if 0 ≤ x6 then (if x6 < (x0.length : Int) then (if 0 ≤ x7 then (if x7 < (x0.length : Int) then (barrowref01_Digits.l1 k ((x0.set (x6 : Int).toNat (rd x0 x7)).set (x7 : Int).toNat (rd x0 x6)) (wrap64 (x6 + 1)) (wrap64 (x7 - 1))) else (none)) else (none)) else (none)) else (none)) else (some x0)
end
def barrowref01_Digits.f (k : Nat) (l0 : List Int) (a1 : Int) : Option (List Int) := barrowref01_Digits.l0 k l0 a1 (l0.length : Int)
theorem barrowref01_Digits.mono_l : ∀ k, (∀ y0 y1 y2, LeO (barrowref01_Digits.l0 k y0 y1 y2) (barrowref01_Digits.l0 (k + 1) y0 y1 y2)) ∧ (∀ y0 y1 y2, LeO (barrowref01_Digits.l1 k y0 y1 y2) (barrowref01_Digits.l1 (k + 1) y0 y1 y2))
 | 0 => ⟨fun _ _ _ r h => by simp [barrowref01_Digits.l0] at h, fun _ _ _ r h => by simp [barrowref01_Digits.l1] at h⟩
 | k + 1 => by
  obtain ⟨ih0, ih1⟩ := barrowref01_Digits.mono_l k
  refine ⟨?_, ?_⟩
  ·intro y0 y1 y2
   unfold barrowref01_Digits.l0
   repeat' first
   | (with_reducible exact ih0 _ _ _)
   | (with_reducible exact ih1 _ _ _)
   | (with_reducible exact LeO.refl _)
   | (with_reducible exact LeO.none _)
   | (with_reducible refine LeO.ite ?_ ?_)
   | (with_reducible refine LeO.bind ?_ (fun _ => ?_))
   | exact ih0 _ _ _
   | exact ih1 _ _ _
   | exact LeO.none _
   | refine LeO.ite ?_ ?_
   | refine LeO.bind ?_ (fun _ => ?_)
  ·intro y0 y1 y2
   unfold barrowref01_Digits.l1
   repeat' first
   | (with_reducible exact ih0 _ _ _)
   | (with_reducible exact ih1 _ _ _)
   | (with_reducible exact LeO.refl _)
   | (with_reducible exact LeO.none _)
   | (with_reducible refine LeO.ite ?_ ?_)
   | (with_reducible refine LeO.bind ?_ (fun _ => ?_))
   | exact ih0 _ _ _
   | exact ih1 _ _ _
   | exact LeO.none _
   | refine LeO.ite ?_ ?_
   | refine LeO.bind ?_ (fun _ => ?_)
theorem barrowref01_Digits.mono : ∀ a0 a1 k, LeO (barrowref01_Digits.f k a0 a1) (barrowref01_Digits.f (k + 1) a0 a1) := by
 intro a0 a1 k
 obtain ⟨ih0, ih1⟩ := barrowref01_Digits.mono_l k
 unfold barrowref01_Digits.f
 repeat' first
   | (with_reducible exact ih0 _ _ _)
   | (with_reducible exact ih1 _ _ _)
   | (with_reducible exact LeO.refl _)
   | (with_reducible exact LeO.none _)
   | (with_reducible refine LeO.ite ?_ ?_)
   | (with_reducible refine LeO.bind ?_ (fun _ => ?_))
   | exact ih0 _ _ _
   | exact ih1 _ _ _
   | exact LeO.none _
   | refine LeO.ite ?_ ?_
   | refine LeO.bind ?_ (fun _ => ?_)
set_option maxHeartbeats 8000000 in
set_option maxRecDepth 100000 in
theorem barrowref01_Digits.calls (k : Nat) (P0_ : Nat → Prop) (u9000_ : Value) (l0 : List Int) (a1 : Int) (r : List Int) (w0 w : World) (hB : Below w0.heap.size w0 w) (ho0 : Kd.R (Kd.int .u8) 5 w w0.heap.size P0_ u9000_ l0) (h : barrowref01_Digits.f k l0 a1 = some r) :
  Calls Tryd.prog 20 #[u9000_, .int .i64 a1] w fun e w' => ∃ v0_ : Value, e = .returned (v0_) ∧ Kd.R (Kd.int .u8) 5 w' w0.heap.size (fun k_ => (P0_ k_ ∨ w.heap.size ≤ k_)) v0_ r ∧ Below w0.heap.size w0 w' ∧ Kept w w' (fun k_ => P0_ k_) := by
 have HO0 := Aside0.mk (show Kd.R (Kd.int .u8) 5 w w0.heap.size (fun k_ => (P0_ k_ ∨ w.heap.size ≤ k_)) u9000_ l0 from Kd.R_mono ho0 (fun k_ hk => (.inl hk)))
 have HK := Aside0.mk (Kept.refl w (fun k_ => P0_ k_))
 have HW0 := Aside0.mk hB.size
 have HB := Aside0.mk hB
 clear hB
 have H : (barrowref01_Digits.l0 k l0 a1 (l0.length : Int)) = some r := h
 clear h
 have H' := Aside0.mk H
 clear H
 obtain ⟨Ao3, co3, eo3⟩ := Kd.R_slice HO0.out
 subst eo3
 go_enter Tryd.func20, Tryd.ntmps20
 go_wp2
 go_loopg [0, 1] k (fun kq v0 v1 w' => ∃ (x0_1 : List Int) (x1_1 : Int), v1 = .int .i64 x1_1 ∧ Aside0 (barrowref01_Digits.l0 kq x0_1 x1_1 (l0.length : Int) = some r) ∧ Aside0 (kq ≤ k) ∧ Aside0 (Kd.R (Kd.int .u8) 5 w' w0.heap.size (fun k_ => (P0_ k_ ∨ w.heap.size ≤ k_)) v0 x0_1) ∧ Aside0 (Kept w w' (fun k_ => P0_ k_)) ∧ Aside0 (Below w0.heap.size w0 w'))
 case atStart => exact ⟨(l0), (a1), (by first | rfl | (simp; done) | (simp [*]; done)), H', ⟨Nat.le_refl _⟩, ⟨by (with_reducible repeat (first | apply Kd.R_alloc | apply Kd.R_drewN | apply Kd.R_drew)); exact HO0.out⟩, ⟨by repeat (first | (with_reducible first | exact HK.out | apply Kept.alloc | apply Kept.drewN | apply Kept.drew) | exact HK.out)⟩, ⟨by repeat (first | (with_reducible first | exact HB.out | apply below_alloc | apply pw_below_drewN | apply below_drew1) | exact HB.out)⟩⟩
 case round =>
  clear H'
  try clear c2
  try clear p2
  obtain ⟨x0_1, x1_1, rfl, HA, HK1, HO_0, HK, HB⟩ := hrel
  cases gk with
  | zero => exact absurd HA.out (by simp [barrowref01_Digits.l0])
  | succ k1 =>
   have H := HA.out
   clear HA
   simp only [barrowref01_Digits.l0] at H
   by_cases c4 : x0_1.length < 140737488355328
   ·rw [if_pos c4] at H
    have LMc4 := Aside0.mk c4
    clear c4
    obtain ⟨y224, hy224⟩ : ∃ y_ : List Int, y_ = (x0_1 ++ [(wrap64 (48 + (Int.tmod x1_1 10))) % 256]) := ⟨_, rfl⟩
    replace H : (if (wrap64 (Int.tdiv x1_1 10)) = 0 then (barrowref01_Digits.l1 k1 y224 (l0.length : Int) (wrap64 ((y224.length : Int) - 1))) else (barrowref01_Digits.l0 k1 y224 (wrap64 (Int.tdiv x1_1 10)) (l0.length : Int))) = some r := by first | (rw [hy224]; with_reducible exact H) | (have H2_ := (Option.bind_some _ _).symm.trans H; rw [hy224]; with_reducible exact H2_) | (have H2_ := (Option.bind_some _ _).symm.trans H; with_reducible exact H2_) | with_reducible exact H | (rw [hy224]; exact H) | exact H
    have Ny224 := Aside0.mk hy224
    clear hy224
    by_cases c5 : (wrap64 (Int.tdiv x1_1 10)) = 0
    ·rw [if_pos c5] at H
     have c5b0 : ((wrap64 (Int.tdiv x1_1 10)) == 0) = true := beq_iff_eq.mpr c5
     have c5b1 : ((wrap64 (Int.tdiv x1_1 10)) != 0) = false := bne_eq_false_iff_eq.mpr c5
     clear c5
     have H' := Aside0.mk H
     clear H
     go_wp2_with (first | ((with_reducible refine gate_builtin (b := .append) (xs := #[.tmp 11, .tmp 16]) rfl ?_); at_builtin; refine Kd.R_append (Kd.int .u8) (w0 := w0) w0.heap.size rfl (.tmp 11) (.tmp 16) 47 5 (.int .u8 0) 1 rfl Tryd.underlying47 info5 rfl (by decide) (by omega) u0 x0_1 ((wrap64 (48 + (Int.tmod x1_1 10))) % 256) [.int .u8 ((wrap64 (48 + (Int.tmod x1_1 10))) % 256)] (fun k_ => (P0_ k_ ∨ w.heap.size ≤ k_)) (fun _ => False) rfl rfl ?aP (fun _ hk => hk.elim) ?aF ?aO ?aB ?aS ?aL ?_; (case aP => exact rfl); (case aB => exact (by repeat (first | (with_reducible first | exact HB.out | apply below_alloc | apply pw_below_drewN | apply below_drew1) | exact HB.out))); (case aF => exact (fun k_ hk => (.inr (Nat.le_trans (by first | exact HK.out.1 | exact (show Kept w _ (fun k_ => P0_ k_) from by repeat (first | (with_reducible first | exact HK.out | apply Kept.alloc | apply Kept.drewN | apply Kept.drew) | exact HK.out)).1) hk)))); (case aO => exact (by (with_reducible repeat (first | apply Kd.R_alloc | apply Kd.R_drewN | apply Kd.R_drew)); exact HO_0.out)); (case aS => exact (below_size (by repeat (first | (with_reducible first | exact HB.out | apply below_alloc | apply pw_below_drewN | apply below_drew1) | exact HB.out)))); (case aL => have := LMc4.out; omega); intro v225 w6 ho hb hg hat; rw [← Ny224.out] at ho; have n0_ := Aside0.mk (hb); have n1_ := Aside0.mk (Kept.of_grown (S := (fun k_ => P0_ k_)) hg (by repeat (first | (with_reducible first | exact HK.out | apply Kept.alloc | apply Kept.drewN | apply Kept.drew) | exact HK.out)) (fun k_ e_ => (HO_0.out.1 k_ e_))); have n2_ := Aside0.mk (ho); clear HB; clear HK; clear HO_0; have HB := n0_; have HK := n1_; have HO226 := n2_; clear n0_ n1_ n2_; clear ho hb hg hat; obtain ⟨Ao7, co7, eo7⟩ := Kd.R_slice HO226.out; subst eo7))
     go_loopg [6, 7] k1 (fun kq v6 v7 w' => ∃ (x0_2 : List Int) (x6_2 : Int) (x7_2 : Int), v6 = .int .i64 x6_2 ∧ v7 = .int .i64 x7_2 ∧ Aside0 (barrowref01_Digits.l1 kq x0_2 x6_2 x7_2 = some r) ∧ Aside0 (kq ≤ k1) ∧ Aside0 (Kd.R (Kd.int .u8) 5 w' w0.heap.size (fun k_ => (P0_ k_ ∨ w.heap.size ≤ k_)) (.slice Ao7 y224.length co7) x0_2) ∧ Aside0 (Kept w w' (fun k_ => P0_ k_)) ∧ Aside0 (Below w0.heap.size w0 w'))
     case atStart => exact ⟨(y224), ((l0.length : Int)), (wrap64 ((y224.length : Int) - 1)), (by first | rfl | (simp; done) | (simp [*]; done)), (by first | rfl | (simp; done) | (simp [*]; done)), H', ⟨Nat.le_refl _⟩, ⟨by (with_reducible repeat (first | apply Kd.R_alloc | apply Kd.R_drewN | apply Kd.R_drew)); exact HO226.out⟩, ⟨by repeat (first | (with_reducible first | exact HK.out | apply Kept.alloc | apply Kept.drewN | apply Kept.drew) | exact HK.out)⟩, ⟨by repeat (first | (with_reducible first | exact HB.out | apply below_alloc | apply pw_below_drewN | apply below_drew1) | exact HB.out)⟩⟩
     case round =>
      clear H'
      try clear c2
      try clear p2
      try clear c4
      try clear c5
      try clear c5b0
      try clear c5b1
      try clear p6
      try clear p2
      obtain ⟨x0_2, x6_2, x7_2, rfl, rfl, HA, HK2, HO_0, HK, HB⟩ := hrel
      have hl0_2 := (Kd.R_reads' HO_0.out).1
      rw [hl0_2] at HO_0
      (try simp only [hl0_2])
      cases gk with
      | zero => exact absurd HA.out (by simp [barrowref01_Digits.l1])
      | succ k2 =>
       have H := HA.out
       clear HA
       simp only [barrowref01_Digits.l1] at H
       by_cases c8 : x6_2 < x7_2
       ·rw [if_pos c8] at H
        have c8b0 : decide (x6_2 < x7_2) = true := decide_eq_true c8
        clear c8
        by_cases c9 : 0 ≤ x6_2
        ·rw [if_pos c9] at H
         have c9b0 : decide (0 ≤ x6_2) = true := decide_eq_true c9
         clear c9
         by_cases c10 : x6_2 < (x0_2.length : Int)
         ·rw [if_pos c10] at H
          have c10b0 : decide (x6_2 < (x0_2.length : Int)) = true := decide_eq_true c10
          (try simp only [hl0_2] at c10b0)
          clear c10
          by_cases c11 : 0 ≤ x7_2
          ·rw [if_pos c11] at H
           have c11b0 : decide (0 ≤ x7_2) = true := decide_eq_true c11
           clear c11
           by_cases c12 : x7_2 < (x0_2.length : Int)
           ·rw [if_pos c12] at H
            have c12b0 : decide (x7_2 < (x0_2.length : Int)) = true := decide_eq_true c12
            (try simp only [hl0_2] at c12b0)
            clear c12
            obtain ⟨y229, hy229⟩ : ∃ y_ : List Int, y_ = (x0_2.set (x6_2 : Int).toNat (rd x0_2 x7_2)) := ⟨_, rfl⟩
            replace H : (barrowref01_Digits.l1 k2 (y229.set (x7_2 : Int).toNat (rd x0_2 x6_2)) (wrap64 (x6_2 + 1)) (wrap64 (x7_2 - 1))) = some r := by first | (rw [hy229]; with_reducible exact H) | (have H2_ := (Option.bind_some _ _).symm.trans H; rw [hy229]; with_reducible exact H2_) | (have H2_ := (Option.bind_some _ _).symm.trans H; with_reducible exact H2_) | with_reducible exact H | (rw [hy229]; exact H) | exact H
            have Ny229 := Aside0.mk hy229
            clear hy229
            obtain ⟨y230, hy230⟩ : ∃ y_ : List Int, y_ = (y229.set (x7_2 : Int).toNat (rd x0_2 x6_2)) := ⟨_, rfl⟩
            replace H : (barrowref01_Digits.l1 k2 y230 (wrap64 (x6_2 + 1)) (wrap64 (x7_2 - 1))) = some r := by first | (rw [hy230]; with_reducible exact H) | (have H2_ := (Option.bind_some _ _).symm.trans H; rw [hy230]; with_reducible exact H2_) | (have H2_ := (Option.bind_some _ _).symm.trans H; with_reducible exact H2_) | with_reducible exact H | (rw [hy230]; exact H) | exact H
            have Ny230 := Aside0.mk hy230
            clear hy230
            have H' := Aside0.mk H
            clear H
            have p227 : 0 ≤ (x6_2 : Int) := of_decide_eq_true (by first | (with_reducible assumption) | assumption)
            have q227 : x6_2 < (x0_2.length : Int) := of_decide_eq_true (by first | (with_reducible assumption) | assumption)
            obtain ⟨ad227, e227, hx227_0⟩ := Kd.at_int (Kd.R_reads' HO_0.out).2.2 x6_2 p227 q227
            cases e227
            replace p227 := eq_true p227
            replace q227 := eq_true q227
            have p228 : 0 ≤ (x7_2 : Int) := of_decide_eq_true (by first | (with_reducible assumption) | assumption)
            have q228 : x7_2 < (x0_2.length : Int) := of_decide_eq_true (by first | (with_reducible assumption) | assumption)
            obtain ⟨ad228, e228, hx228_0⟩ := Kd.at_int (Kd.R_reads' HO_0.out).2.2 x7_2 p228 q228
            obtain rfl : ad227 = ad228 := (by injection e228)
            replace p228 := eq_true p228
            replace q228 := eq_true q228
            have p13 : 0 ≤ (x6_2 : Int) := of_decide_eq_true (by first | (with_reducible assumption) | assumption)
            have q13 : (x6_2 : Int) < ((x0_2.length : Int) : Int) := of_decide_eq_true (by first | (with_reducible assumption) | assumption)
            obtain ⟨go13, co13, eo13, gb13, gl13, cl13, HG13⟩ := Kd.R_form HO_0.out (by omega)
            (first | cases eo13 | (injection eo13 with ea_ en_ ec_; (first | subst ea_ | (injection ea_ with ea_; subst ea_)); subst ec_; clear en_))
            have GB13 := Aside0.mk gb13
            have GG13 := Aside0.mk HG13
            clear gb13 gl13 HG13
            have HMgo13 := Aside0.mk (show (P0_ go13 ∨ w.heap.size ≤ go13) from (HO_0.out.1 _ rfl))
            (first | simp only [add_plain] at hx227_0 | skip)
            (first | simp only [add_plain] at hx228_0 | skip)
            obtain ⟨hx13_0, hf13_0⟩ := Kd.R_celln 0 HO_0.out (x6_2 : Int) p13 q13
            replace p13 := eq_true p13
            replace q13 := eq_true q13
            have HP15 := Kd.R_putg HO_0.out (x6_2 : Int) (rd x0_2 x7_2)
            go_wp2_with (first | ((with_reducible refine gate_store (t := 5) (p := 43) rfl ?_); refine store_event (t := 5) (p := 43) (v := ?vo_w16) (w1 := (wr.setCell ⟨go13, (x6_2 : Int).toNat, none⟩ (.int .u8 (rd x0_2 x7_2)))) ?hg ?ho ?hn ?hr ?_; (case ho => rfl); (case hg => rfl); (case hn => rfl); (case hr => first | (go_simp; done) | (go_simp; rfl)); intro w16 hw; have hg : wr.grownBy w16 (some go13) := (by rw [hw]; exact HP15.2); have hp_ : Kd.R (Kd.int .u8) 5 w16 w0.heap.size (fun k_ => (P0_ k_ ∨ w.heap.size ≤ k_)) (.slice (some ⟨go13, 0, none⟩) x0_2.length co7) y229 := (by rw [hw, Ny229.out]; exact HP15.1); clear HP15; have n0_ := Aside0.mk (hp_); have n1_ := Aside0.mk ((by rw [hw]; exact below_set (HB.out) GB13.out : Below w0.heap.size w0 w16)); have n2_ := Aside0.mk (Kept.of_grown (S := (fun k_ => P0_ k_)) hg (by repeat (first | (with_reducible first | exact HK.out | apply Kept.alloc | apply Kept.drewN | apply Kept.drew) | exact HK.out)) (fun k_ e_ => (HO_0.out.1 k_ e_))); clear HO_0; clear HB; clear HK; have HO_0 := n0_; have HB := n1_; have HK := n2_; clear n0_ n1_ n2_; clear hg hw hp_; have p14 : 0 ≤ (x7_2 : Int) := of_decide_eq_true (by first | (with_reducible assumption) | assumption); have q14 : (x7_2 : Int) < ((x0_2.length : Int) : Int) := of_decide_eq_true (by first | (with_reducible assumption) | assumption); obtain ⟨hx14_0, hf14_0⟩ := Kd.R_celln 0 HO_0.out (x7_2 : Int) p14 q14; replace p14 := eq_true p14; replace q14 := eq_true q14; obtain ⟨hy17_, hz17_⟩ := Kd.R_celln 0 HO_0.out (x7_2 : Int) (of_decide_eq_true (by first | (with_reducible assumption) | assumption)) (of_decide_eq_true (by first | (with_reducible assumption) | assumption)); have HP17 := Kd.R_putg HO_0.out (x7_2 : Int) (rd x0_2 x6_2)) | ((with_reducible refine gate_store (t := 5) (p := 47) rfl ?_); refine store_event (t := 5) (p := 47) (v := ?vo_w18) (w1 := (w16.setCell ⟨go13, (x7_2 : Int).toNat, none⟩ (.int .u8 (rd x0_2 x6_2)))) ?hg ?ho ?hn ?hr ?_; (case ho => rfl); (case hg => rfl); (case hn => rfl); (case hr => first | (go_simp; done) | (go_simp; rfl)); intro w18 hw; have hg : w16.grownBy w18 (some go13) := (by rw [hw]; exact HP17.2); have hp_ : Kd.R (Kd.int .u8) 5 w18 w0.heap.size (fun k_ => (P0_ k_ ∨ w.heap.size ≤ k_)) (.slice (some ⟨go13, 0, none⟩) x0_2.length co7) y230 := (by rw [hw, Ny230.out]; exact HP17.1); clear HP17; have n0_ := Aside0.mk (hp_); have n1_ := Aside0.mk ((by rw [hw]; exact below_set (HB.out) GB13.out : Below w0.heap.size w0 w18)); have n2_ := Aside0.mk (Kept.of_grown (S := (fun k_ => P0_ k_)) hg (by repeat (first | (with_reducible first | exact HK.out | apply Kept.alloc | apply Kept.drewN | apply Kept.drew) | exact HK.out)) (fun k_ e_ => (HO_0.out.1 k_ e_))); clear HO_0; clear HB; clear HK; have HO_0 := n0_; have HB := n1_; have HK := n2_; clear n0_ n1_ n2_; clear hg hw hp_))
            (try simp only [← hl0_2])
            go_roundg k2
            case measure => have := HK1.out; have := HK2.out; omega
            case rel => exact ⟨(y230), (wrap64 (x6_2 + 1)), (wrap64 (x7_2 - 1)), (by first | rfl | (simp; done) | (simp [*]; done)), (by first | rfl | (simp; done) | (simp [*]; done)), H', ⟨by have := HK1.out; have := HK2.out; omega⟩, ⟨by (try simp only [hl0_2]); (with_reducible repeat (first | apply Kd.R_alloc | apply Kd.R_drewN | apply Kd.R_drew)); exact HO_0.out⟩, ⟨by repeat (first | (with_reducible first | exact HK.out | apply Kept.alloc | apply Kept.drewN | apply Kept.drew) | exact HK.out)⟩, ⟨by repeat (first | (with_reducible first | exact HB.out | apply below_alloc | apply pw_below_drewN | apply below_drew1) | exact HB.out)⟩⟩
           ·rw [if_neg c12] at H
            exact absurd H (by simp)
          ·rw [if_neg c11] at H
           exact absurd H (by simp)
         ·rw [if_neg c10] at H
          exact absurd H (by simp)
        ·rw [if_neg c9] at H
         exact absurd H (by simp)
       ·rw [if_neg c8] at H
        have c8b0 : decide (x6_2 < x7_2) = false := decide_eq_false c8
        clear c8
        obtain rfl := Option.some.inj H
        go_wp2
        go_ret
        exact ⟨_, by first | rfl | (simp [errW_none, errW_some] <;> rfl) | (simp [*, errW_none, errW_some] <;> rfl), by (with_reducible repeat (first | apply Kd.R_alloc | apply Kd.R_drewN | apply Kd.R_drew)); exact HO_0.out, by repeat (first | (with_reducible first | exact HB.out | apply below_alloc | apply pw_below_drewN | apply below_drew1) | exact HB.out), by repeat (first | (with_reducible first | exact HK.out | apply Kept.alloc | apply Kept.drewN | apply Kept.drew) | exact HK.out)⟩
    ·rw [if_neg c5] at H
     have c5b0 : ((wrap64 (Int.tdiv x1_1 10)) == 0) = false := beq_eq_false_iff_ne.mpr c5
     have c5b1 : ((wrap64 (Int.tdiv x1_1 10)) != 0) = true := bne_iff_ne.mpr c5
     have H' := Aside0.mk H
     clear H
     go_wp2_with (first | ((with_reducible refine gate_builtin (b := .append) (xs := #[.tmp 11, .tmp 16]) rfl ?_); at_builtin; refine Kd.R_append (Kd.int .u8) (w0 := w0) w0.heap.size rfl (.tmp 11) (.tmp 16) 47 5 (.int .u8 0) 1 rfl Tryd.underlying47 info5 rfl (by decide) (by omega) u0 x0_1 ((wrap64 (48 + (Int.tmod x1_1 10))) % 256) [.int .u8 ((wrap64 (48 + (Int.tmod x1_1 10))) % 256)] (fun k_ => (P0_ k_ ∨ w.heap.size ≤ k_)) (fun _ => False) rfl rfl ?aP (fun _ hk => hk.elim) ?aF ?aO ?aB ?aS ?aL ?_; (case aP => exact rfl); (case aB => exact (by repeat (first | (with_reducible first | exact HB.out | apply below_alloc | apply pw_below_drewN | apply below_drew1) | exact HB.out))); (case aF => exact (fun k_ hk => (.inr (Nat.le_trans (by first | exact HK.out.1 | exact (show Kept w _ (fun k_ => P0_ k_) from by repeat (first | (with_reducible first | exact HK.out | apply Kept.alloc | apply Kept.drewN | apply Kept.drew) | exact HK.out)).1) hk)))); (case aO => exact (by (with_reducible repeat (first | apply Kd.R_alloc | apply Kd.R_drewN | apply Kd.R_drew)); exact HO_0.out)); (case aS => exact (below_size (by repeat (first | (with_reducible first | exact HB.out | apply below_alloc | apply pw_below_drewN | apply below_drew1) | exact HB.out)))); (case aL => have := LMc4.out; omega); intro v225 w19 ho hb hg hat; rw [← Ny224.out] at ho; have n0_ := Aside0.mk (hb); have n1_ := Aside0.mk (Kept.of_grown (S := (fun k_ => P0_ k_)) hg (by repeat (first | (with_reducible first | exact HK.out | apply Kept.alloc | apply Kept.drewN | apply Kept.drew) | exact HK.out)) (fun k_ e_ => (HO_0.out.1 k_ e_))); have n2_ := Aside0.mk (ho); clear HB; clear HK; clear HO_0; have HB := n0_; have HK := n1_; have HO226 := n2_; clear n0_ n1_ n2_; clear ho hb hg hat))
     go_roundg k1
     case measure => have := HK1.out; omega
     case rel => exact ⟨(y224), (wrap64 (Int.tdiv x1_1 10)), (by first | rfl | (simp; done) | (simp [*]; done)), H', ⟨by have := HK1.out; omega⟩, ⟨by (with_reducible repeat (first | apply Kd.R_alloc | apply Kd.R_drewN | apply Kd.R_drew)); exact HO226.out⟩, ⟨by repeat (first | (with_reducible first | exact HK.out | apply Kept.alloc | apply Kept.drewN | apply Kept.drew) | exact HK.out)⟩, ⟨by repeat (first | (with_reducible first | exact HB.out | apply below_alloc | apply pw_below_drewN | apply below_drew1) | exact HB.out)⟩⟩
   ·rw [if_neg c4] at H
    exact absurd H (by simp)

end Go.Proofs.YtlmdcpooogaolaaDoor.G
