-- PRINTED by print.py (a twelfth state) out of the translation. Not trusted: Lean checks it.
import Derived.Test.YtmicghhmbojkfaaGx0
import Derived.Test.YtmicghhmbojkfaaGx6
import Derived.Test.YtmicghhmbojkfaaClean
namespace Go.Proofs.Ytmicghhmbojkfaa.G
open Go.RowKit Go.Proofs.YtmicghhmbojkfaaW.PrintWords Go.Proofs.YtmicghhmbojkfaaW.PrintLast Go.Proofs.YtmicghhmbojkfaaW.PrintMore
attribute [local go_sem] max2_int min2_int max_two min_two max_three min_three max_four min_four   -- for this text's walks alone
set_option linter.unusedVariables false
set_option linter.unusedSimpArgs false

/-! ### barrowlaw02_GoodsFits: function 5 -/
mutual
def barrowlaw02_GoodsFits.j0 : Nat → ByteArray → List Int → ByteArray → Bool → Option (Bool)
  | 0, _, _, _, _ => none
  | k + 1, x0, x1, x2, x27 => if x27 = true then (some false) else ((goods_Clean.f x0).bind fun bt187 => (if bt187.2 = 0 then (barrowlaw02_GoodsFits.j1 k x1 x2 bt187.1) else (barrowlaw02_GoodsFits.j1 k x1 x2 (⟨#[65, 66, 45, 49, 50, 46, 88]⟩ : ByteArray))))
def barrowlaw02_GoodsFits.j1 : Nat → List Int → ByteArray → ByteArray → Option (Bool)
  | 0, _, _, _ => none
  | k + 1, x1, x2, x9 => barrowlaw02_GoodsFits.l0 k x1 x2 x9 ([] : List Int) false 0
def barrowlaw02_GoodsFits.l0 : Nat → List Int → ByteArray → ByteArray → List Int → Bool → Int → Option (Bool)
  | 0, _, _, _, _, _, _ => none
  | k + 1, x1, x2, x9, x11, x12, x13 => if x13 < (x9.size : Int) then (if x13 < (x1.length : Int) then (if 0 ≤ x13 then (barrowlaw02_GoodsFits.j3 k x1 x2 x9 x11 x12 x13 (Go.bits .and .i64 (rd x1 x13) 7)) else (none)) else (barrowlaw02_GoodsFits.j3 k x1 x2 x9 x11 x12 x13 0)) else ((goods_Match.f k (strOfNums x11) x9).bind fun bt211 => (if bt211.1 = true then (barrowlaw02_GoodsFits.j6 k x2 x9 x11 x12 (bt211.2 != 0)) else (barrowlaw02_GoodsFits.j6 k x2 x9 x11 x12 true)))
def barrowlaw02_GoodsFits.j3 : Nat → List Int → ByteArray → ByteArray → List Int → Bool → Int → Int → Option (Bool)
  | 0, _, _, _, _, _, _, _ => none
  | k + 1, x1, x2, x9, x11, x12, x13, x14 => if 0 ≤ x13 then (if x13 < (x9.size : Int) then (if x14 = 1 then (if x11.length < 140737488355328 then (barrowlaw02_GoodsFits.l0 k x1 x2 x9 (x11 ++ [63]) x12 (wrap64 (x13 + 1))) else (none)) else (if x14 = 2 then (if (bt x9 x13) ≥ 48 then (barrowlaw02_GoodsFits.j4 k x1 x2 x9 x11 x12 x13 x14 (bt x9 x13) (decide ((bt x9 x13) ≤ 57))) else (barrowlaw02_GoodsFits.j4 k x1 x2 x9 x11 x12 x13 x14 (bt x9 x13) false)) else (barrowlaw02_GoodsFits.j4 k x1 x2 x9 x11 x12 x13 x14 (bt x9 x13) false))) else (none)) else (none)
def barrowlaw02_GoodsFits.j4 : Nat → List Int → ByteArray → ByteArray → List Int → Bool → Int → Int → Int → Bool → Option (Bool)
  | 0, _, _, _, _, _, _, _, _, _ => none
  | k + 1, x1, x2, x9, x11, x12, x13, x14, x15, x63 => if x63 = true then (if x11.length < 140737488355328 then (barrowlaw02_GoodsFits.l0 k x1 x2 x9 (x11 ++ [35]) x12 (wrap64 (x13 + 1))) else (none)) else (if x14 = 2 then (if x15 ≥ 65 then (barrowlaw02_GoodsFits.j5 k x1 x2 x9 x11 x12 x13 x14 x15 (decide (x15 ≤ 90))) else (barrowlaw02_GoodsFits.j5 k x1 x2 x9 x11 x12 x13 x14 x15 false)) else (barrowlaw02_GoodsFits.j5 k x1 x2 x9 x11 x12 x13 x14 x15 false))
def barrowlaw02_GoodsFits.j5 : Nat → List Int → ByteArray → ByteArray → List Int → Bool → Int → Int → Int → Bool → Option (Bool)
  | 0, _, _, _, _, _, _, _, _, _ => none
  | k + 1, x1, x2, x9, x11, x12, x13, x14, x15, x77 => if x77 = true then (if x11.length < 140737488355328 then (barrowlaw02_GoodsFits.l0 k x1 x2 x9 (x11 ++ [64]) x12 (wrap64 (x13 + 1))) else (none)) else (if x14 = 3 then (if x11.length < 140737488355328 then (barrowlaw02_GoodsFits.l0 k x1 x2 x9 (x11 ++ [42]) true (wrap64 (x13 + 1))) else (none)) else (if x14 = 4 then ((some (([42, x15] : List Int) : List Int)).bind fun y202 => (if x11.length + y202.length < 140737488355328 then (barrowlaw02_GoodsFits.l0 k x1 x2 x9 (x11 ++ y202) true (wrap64 (x13 + 1))) else (none))) else (if x11.length < 140737488355328 then (barrowlaw02_GoodsFits.l0 k x1 x2 x9 (x11 ++ [x15]) x12 (wrap64 (x13 + 1))) else (none))))
def barrowlaw02_GoodsFits.j6 : Nat → ByteArray → ByteArray → List Int → Bool → Bool → Option (Bool)
  | 0, _, _, _, _, _ => none
  | k + 1, x2, x9, x11, x12, x116 => if x116 = true then (some false) else (if (x9.size : Int) < 24 then (if (strOfNums x11).size + 1 ≤ 9223372036854775807 then ((goods_Match.f k ((strOfNums x11) ++ (⟨#[63]⟩ : ByteArray)) x9).bind fun bt213 => (if x12 = true then (barrowlaw02_GoodsFits.j7 k x2 x9) else (if bt213.1 = true then (some false) else (if bt213.2 = 0 then (barrowlaw02_GoodsFits.j7 k x2 x9) else (some false))))) else (none)) else (barrowlaw02_GoodsFits.j7 k x2 x9))
def barrowlaw02_GoodsFits.j7 : Nat → ByteArray → ByteArray → Option (Bool)
  | 0, _, _ => none
  | k + 1, x2, x9 => (goods_Clean.f x2).bind fun bt215 => (if bt215.2 = 0 then ((goods_Match.f k x9 bt215.1).bind fun bt217 => (if (bt217.1 == (x9.toList == bt215.1.toList)) = true then (some (bt217.2 == 0)) else (some false))) else ((goods_Match.f k x9 (⟨#[65, 66, 45, 49, 50, 46, 88]⟩ : ByteArray)).bind fun bt219 => (if (bt219.1 == (x9.toList == ([65, 66, 45, 49, 50, 46, 88] : List UInt8))) = true then (some (bt219.2 == 0)) else (some false))))
end
def barrowlaw02_GoodsFits.f (k : Nat) (a0 : ByteArray) (l1 : List Int) (a2 : ByteArray) : Option (Bool) := (goods_Match.f k (⟨#[64, 63, 42]⟩ : ByteArray) (⟨#[65, 66]⟩ : ByteArray)).bind fun bt185 => (if bt185.1 = true then (barrowlaw02_GoodsFits.j0 k a0 l1 a2 (bt185.2 != 0)) else (barrowlaw02_GoodsFits.j0 k a0 l1 a2 true))
theorem barrowlaw02_GoodsFits.mono_l : ∀ k, (∀ y0 y1 y2 y3, LeO (barrowlaw02_GoodsFits.j0 k y0 y1 y2 y3) (barrowlaw02_GoodsFits.j0 (k + 1) y0 y1 y2 y3)) ∧ (∀ y0 y1 y2, LeO (barrowlaw02_GoodsFits.j1 k y0 y1 y2) (barrowlaw02_GoodsFits.j1 (k + 1) y0 y1 y2)) ∧ (∀ y0 y1 y2 y3 y4 y5, LeO (barrowlaw02_GoodsFits.l0 k y0 y1 y2 y3 y4 y5) (barrowlaw02_GoodsFits.l0 (k + 1) y0 y1 y2 y3 y4 y5)) ∧ (∀ y0 y1 y2 y3 y4 y5 y6, LeO (barrowlaw02_GoodsFits.j3 k y0 y1 y2 y3 y4 y5 y6) (barrowlaw02_GoodsFits.j3 (k + 1) y0 y1 y2 y3 y4 y5 y6)) ∧ (∀ y0 y1 y2 y3 y4 y5 y6 y7 y8, LeO (barrowlaw02_GoodsFits.j4 k y0 y1 y2 y3 y4 y5 y6 y7 y8) (barrowlaw02_GoodsFits.j4 (k + 1) y0 y1 y2 y3 y4 y5 y6 y7 y8)) ∧ (∀ y0 y1 y2 y3 y4 y5 y6 y7 y8, LeO (barrowlaw02_GoodsFits.j5 k y0 y1 y2 y3 y4 y5 y6 y7 y8) (barrowlaw02_GoodsFits.j5 (k + 1) y0 y1 y2 y3 y4 y5 y6 y7 y8)) ∧ (∀ y0 y1 y2 y3 y4, LeO (barrowlaw02_GoodsFits.j6 k y0 y1 y2 y3 y4) (barrowlaw02_GoodsFits.j6 (k + 1) y0 y1 y2 y3 y4)) ∧ (∀ y0 y1, LeO (barrowlaw02_GoodsFits.j7 k y0 y1) (barrowlaw02_GoodsFits.j7 (k + 1) y0 y1))
  | 0 => ⟨fun _ _ _ _ r h => by simp [barrowlaw02_GoodsFits.j0] at h, fun _ _ _ r h => by simp [barrowlaw02_GoodsFits.j1] at h, fun _ _ _ _ _ _ r h => by simp [barrowlaw02_GoodsFits.l0] at h, fun _ _ _ _ _ _ _ r h => by simp [barrowlaw02_GoodsFits.j3] at h, fun _ _ _ _ _ _ _ _ _ r h => by simp [barrowlaw02_GoodsFits.j4] at h, fun _ _ _ _ _ _ _ _ _ r h => by simp [barrowlaw02_GoodsFits.j5] at h, fun _ _ _ _ _ r h => by simp [barrowlaw02_GoodsFits.j6] at h, fun _ _ r h => by simp [barrowlaw02_GoodsFits.j7] at h⟩
  | k + 1 => by
    obtain ⟨ih0, ih1, ih2, ih3, ih4, ih5, ih6, ih7⟩ := barrowlaw02_GoodsFits.mono_l k
    refine ⟨?_, ?_, ?_, ?_, ?_, ?_, ?_, ?_⟩
    · intro y0 y1 y2 y3
      unfold barrowlaw02_GoodsFits.j0
      repeat' first
      | (with_reducible exact ih0 _ _ _ _)
      | (with_reducible exact ih1 _ _ _)
      | (with_reducible exact ih2 _ _ _ _ _ _)
      | (with_reducible exact ih3 _ _ _ _ _ _ _)
      | (with_reducible exact ih4 _ _ _ _ _ _ _ _ _)
      | (with_reducible exact ih5 _ _ _ _ _ _ _ _ _)
      | (with_reducible exact ih6 _ _ _ _ _)
      | (with_reducible exact ih7 _ _)
      | (with_reducible exact goods_Match.mono _ _ _)
      | (with_reducible exact LeO.refl _)
      | (with_reducible exact LeO.none _)
      | (with_reducible refine LeO.ite ?_ ?_)
      | (with_reducible refine LeO.bind ?_ (fun _ => ?_))
      | exact ih0 _ _ _ _
      | exact ih1 _ _ _
      | exact ih2 _ _ _ _ _ _
      | exact ih3 _ _ _ _ _ _ _
      | exact ih4 _ _ _ _ _ _ _ _ _
      | exact ih5 _ _ _ _ _ _ _ _ _
      | exact ih6 _ _ _ _ _
      | exact ih7 _ _
      | exact goods_Match.mono _ _ _
      | exact LeO.none _
      | refine LeO.ite ?_ ?_
      | refine LeO.bind ?_ (fun _ => ?_)
    · intro y0 y1 y2
      unfold barrowlaw02_GoodsFits.j1
      repeat' first
      | (with_reducible exact ih0 _ _ _ _)
      | (with_reducible exact ih1 _ _ _)
      | (with_reducible exact ih2 _ _ _ _ _ _)
      | (with_reducible exact ih3 _ _ _ _ _ _ _)
      | (with_reducible exact ih4 _ _ _ _ _ _ _ _ _)
      | (with_reducible exact ih5 _ _ _ _ _ _ _ _ _)
      | (with_reducible exact ih6 _ _ _ _ _)
      | (with_reducible exact ih7 _ _)
      | (with_reducible exact goods_Match.mono _ _ _)
      | (with_reducible exact LeO.refl _)
      | (with_reducible exact LeO.none _)
      | (with_reducible refine LeO.ite ?_ ?_)
      | (with_reducible refine LeO.bind ?_ (fun _ => ?_))
      | exact ih0 _ _ _ _
      | exact ih1 _ _ _
      | exact ih2 _ _ _ _ _ _
      | exact ih3 _ _ _ _ _ _ _
      | exact ih4 _ _ _ _ _ _ _ _ _
      | exact ih5 _ _ _ _ _ _ _ _ _
      | exact ih6 _ _ _ _ _
      | exact ih7 _ _
      | exact goods_Match.mono _ _ _
      | exact LeO.none _
      | refine LeO.ite ?_ ?_
      | refine LeO.bind ?_ (fun _ => ?_)
    · intro y0 y1 y2 y3 y4 y5
      unfold barrowlaw02_GoodsFits.l0
      repeat' first
      | (with_reducible exact ih0 _ _ _ _)
      | (with_reducible exact ih1 _ _ _)
      | (with_reducible exact ih2 _ _ _ _ _ _)
      | (with_reducible exact ih3 _ _ _ _ _ _ _)
      | (with_reducible exact ih4 _ _ _ _ _ _ _ _ _)
      | (with_reducible exact ih5 _ _ _ _ _ _ _ _ _)
      | (with_reducible exact ih6 _ _ _ _ _)
      | (with_reducible exact ih7 _ _)
      | (with_reducible exact goods_Match.mono _ _ _)
      | (with_reducible exact LeO.refl _)
      | (with_reducible exact LeO.none _)
      | (with_reducible refine LeO.ite ?_ ?_)
      | (with_reducible refine LeO.bind ?_ (fun _ => ?_))
      | exact ih0 _ _ _ _
      | exact ih1 _ _ _
      | exact ih2 _ _ _ _ _ _
      | exact ih3 _ _ _ _ _ _ _
      | exact ih4 _ _ _ _ _ _ _ _ _
      | exact ih5 _ _ _ _ _ _ _ _ _
      | exact ih6 _ _ _ _ _
      | exact ih7 _ _
      | exact goods_Match.mono _ _ _
      | exact LeO.none _
      | refine LeO.ite ?_ ?_
      | refine LeO.bind ?_ (fun _ => ?_)
    · intro y0 y1 y2 y3 y4 y5 y6
      unfold barrowlaw02_GoodsFits.j3
      repeat' first
      | (with_reducible exact ih0 _ _ _ _)
      | (with_reducible exact ih1 _ _ _)
      | (with_reducible exact ih2 _ _ _ _ _ _)
      | (with_reducible exact ih3 _ _ _ _ _ _ _)
      | (with_reducible exact ih4 _ _ _ _ _ _ _ _ _)
      | (with_reducible exact ih5 _ _ _ _ _ _ _ _ _)
      | (with_reducible exact ih6 _ _ _ _ _)
      | (with_reducible exact ih7 _ _)
      | (with_reducible exact goods_Match.mono _ _ _)
      | (with_reducible exact LeO.refl _)
      | (with_reducible exact LeO.none _)
      | (with_reducible refine LeO.ite ?_ ?_)
      | (with_reducible refine LeO.bind ?_ (fun _ => ?_))
      | exact ih0 _ _ _ _
      | exact ih1 _ _ _
      | exact ih2 _ _ _ _ _ _
      | exact ih3 _ _ _ _ _ _ _
      | exact ih4 _ _ _ _ _ _ _ _ _
      | exact ih5 _ _ _ _ _ _ _ _ _
      | exact ih6 _ _ _ _ _
      | exact ih7 _ _
      | exact goods_Match.mono _ _ _
      | exact LeO.none _
      | refine LeO.ite ?_ ?_
      | refine LeO.bind ?_ (fun _ => ?_)
    · intro y0 y1 y2 y3 y4 y5 y6 y7 y8
      unfold barrowlaw02_GoodsFits.j4
      repeat' first
      | (with_reducible exact ih0 _ _ _ _)
      | (with_reducible exact ih1 _ _ _)
      | (with_reducible exact ih2 _ _ _ _ _ _)
      | (with_reducible exact ih3 _ _ _ _ _ _ _)
      | (with_reducible exact ih4 _ _ _ _ _ _ _ _ _)
      | (with_reducible exact ih5 _ _ _ _ _ _ _ _ _)
      | (with_reducible exact ih6 _ _ _ _ _)
      | (with_reducible exact ih7 _ _)
      | (with_reducible exact goods_Match.mono _ _ _)
      | (with_reducible exact LeO.refl _)
      | (with_reducible exact LeO.none _)
      | (with_reducible refine LeO.ite ?_ ?_)
      | (with_reducible refine LeO.bind ?_ (fun _ => ?_))
      | exact ih0 _ _ _ _
      | exact ih1 _ _ _
      | exact ih2 _ _ _ _ _ _
      | exact ih3 _ _ _ _ _ _ _
      | exact ih4 _ _ _ _ _ _ _ _ _
      | exact ih5 _ _ _ _ _ _ _ _ _
      | exact ih6 _ _ _ _ _
      | exact ih7 _ _
      | exact goods_Match.mono _ _ _
      | exact LeO.none _
      | refine LeO.ite ?_ ?_
      | refine LeO.bind ?_ (fun _ => ?_)
    · intro y0 y1 y2 y3 y4 y5 y6 y7 y8
      unfold barrowlaw02_GoodsFits.j5
      repeat' first
      | (with_reducible exact ih0 _ _ _ _)
      | (with_reducible exact ih1 _ _ _)
      | (with_reducible exact ih2 _ _ _ _ _ _)
      | (with_reducible exact ih3 _ _ _ _ _ _ _)
      | (with_reducible exact ih4 _ _ _ _ _ _ _ _ _)
      | (with_reducible exact ih5 _ _ _ _ _ _ _ _ _)
      | (with_reducible exact ih6 _ _ _ _ _)
      | (with_reducible exact ih7 _ _)
      | (with_reducible exact goods_Match.mono _ _ _)
      | (with_reducible exact LeO.refl _)
      | (with_reducible exact LeO.none _)
      | (with_reducible refine LeO.ite ?_ ?_)
      | (with_reducible refine LeO.bind ?_ (fun _ => ?_))
      | exact ih0 _ _ _ _
      | exact ih1 _ _ _
      | exact ih2 _ _ _ _ _ _
      | exact ih3 _ _ _ _ _ _ _
      | exact ih4 _ _ _ _ _ _ _ _ _
      | exact ih5 _ _ _ _ _ _ _ _ _
      | exact ih6 _ _ _ _ _
      | exact ih7 _ _
      | exact goods_Match.mono _ _ _
      | exact LeO.none _
      | refine LeO.ite ?_ ?_
      | refine LeO.bind ?_ (fun _ => ?_)
    · intro y0 y1 y2 y3 y4
      unfold barrowlaw02_GoodsFits.j6
      repeat' first
      | (with_reducible exact ih0 _ _ _ _)
      | (with_reducible exact ih1 _ _ _)
      | (with_reducible exact ih2 _ _ _ _ _ _)
      | (with_reducible exact ih3 _ _ _ _ _ _ _)
      | (with_reducible exact ih4 _ _ _ _ _ _ _ _ _)
      | (with_reducible exact ih5 _ _ _ _ _ _ _ _ _)
      | (with_reducible exact ih6 _ _ _ _ _)
      | (with_reducible exact ih7 _ _)
      | (with_reducible exact goods_Match.mono _ _ _)
      | (with_reducible exact LeO.refl _)
      | (with_reducible exact LeO.none _)
      | (with_reducible refine LeO.ite ?_ ?_)
      | (with_reducible refine LeO.bind ?_ (fun _ => ?_))
      | exact ih0 _ _ _ _
      | exact ih1 _ _ _
      | exact ih2 _ _ _ _ _ _
      | exact ih3 _ _ _ _ _ _ _
      | exact ih4 _ _ _ _ _ _ _ _ _
      | exact ih5 _ _ _ _ _ _ _ _ _
      | exact ih6 _ _ _ _ _
      | exact ih7 _ _
      | exact goods_Match.mono _ _ _
      | exact LeO.none _
      | refine LeO.ite ?_ ?_
      | refine LeO.bind ?_ (fun _ => ?_)
    · intro y0 y1
      unfold barrowlaw02_GoodsFits.j7
      repeat' first
      | (with_reducible exact ih0 _ _ _ _)
      | (with_reducible exact ih1 _ _ _)
      | (with_reducible exact ih2 _ _ _ _ _ _)
      | (with_reducible exact ih3 _ _ _ _ _ _ _)
      | (with_reducible exact ih4 _ _ _ _ _ _ _ _ _)
      | (with_reducible exact ih5 _ _ _ _ _ _ _ _ _)
      | (with_reducible exact ih6 _ _ _ _ _)
      | (with_reducible exact ih7 _ _)
      | (with_reducible exact goods_Match.mono _ _ _)
      | (with_reducible exact LeO.refl _)
      | (with_reducible exact LeO.none _)
      | (with_reducible refine LeO.ite ?_ ?_)
      | (with_reducible refine LeO.bind ?_ (fun _ => ?_))
      | exact ih0 _ _ _ _
      | exact ih1 _ _ _
      | exact ih2 _ _ _ _ _ _
      | exact ih3 _ _ _ _ _ _ _
      | exact ih4 _ _ _ _ _ _ _ _ _
      | exact ih5 _ _ _ _ _ _ _ _ _
      | exact ih6 _ _ _ _ _
      | exact ih7 _ _
      | exact goods_Match.mono _ _ _
      | exact LeO.none _
      | refine LeO.ite ?_ ?_
      | refine LeO.bind ?_ (fun _ => ?_)
theorem barrowlaw02_GoodsFits.mono : ∀ a0 a1 a2 k, LeO (barrowlaw02_GoodsFits.f k a0 a1 a2) (barrowlaw02_GoodsFits.f (k + 1) a0 a1 a2) := by
  intro a0 a1 a2 k
  obtain ⟨ih0, ih1, ih2, ih3, ih4, ih5, ih6, ih7⟩ := barrowlaw02_GoodsFits.mono_l k
  unfold barrowlaw02_GoodsFits.f
  repeat' first
      | (with_reducible exact ih0 _ _ _ _)
      | (with_reducible exact ih1 _ _ _)
      | (with_reducible exact ih2 _ _ _ _ _ _)
      | (with_reducible exact ih3 _ _ _ _ _ _ _)
      | (with_reducible exact ih4 _ _ _ _ _ _ _ _ _)
      | (with_reducible exact ih5 _ _ _ _ _ _ _ _ _)
      | (with_reducible exact ih6 _ _ _ _ _)
      | (with_reducible exact ih7 _ _)
      | (with_reducible exact goods_Match.mono _ _ _)
      | (with_reducible exact LeO.refl _)
      | (with_reducible exact LeO.none _)
      | (with_reducible refine LeO.ite ?_ ?_)
      | (with_reducible refine LeO.bind ?_ (fun _ => ?_))
      | exact ih0 _ _ _ _
      | exact ih1 _ _ _
      | exact ih2 _ _ _ _ _ _
      | exact ih3 _ _ _ _ _ _ _
      | exact ih4 _ _ _ _ _ _ _ _ _
      | exact ih5 _ _ _ _ _ _ _ _ _
      | exact ih6 _ _ _ _ _
      | exact ih7 _ _
      | exact goods_Match.mono _ _ _
      | exact LeO.none _
      | refine LeO.ite ?_ ?_
      | refine LeO.bind ?_ (fun _ => ?_)
set_option maxHeartbeats 8000000 in
set_option maxRecDepth 100000 in
theorem barrowlaw02_GoodsFits.calls (k : Nat) (a0 : ByteArray) (A1 : Option Addr) (c1 : Nat) (l1 : List Int) (a2 : ByteArray) (r : Bool) (w : World) (hr1 : Kd.C (Kd.int .i64) w A1 l1.length l1) (hc1 : l1.length ≤ c1) (h : barrowlaw02_GoodsFits.f k a0 l1 a2 = some r) :
    Calls Try.prog 5 #[.string a0, .slice A1 l1.length c1, .string a2] w fun e w' => e = .returned (.bool r) ∧ Below w.heap.size w w' := by
  have HR1 := Aside0.mk hr1
  have HC1 := Aside0.mk hc1
  clear hr1 hc1
  have HB := Aside0.mk (Below.refl w.heap.size w)
  have H : ((goods_Match.f k (⟨#[64, 63, 42]⟩ : ByteArray) (⟨#[65, 66]⟩ : ByteArray)).bind fun bt185 => (if bt185.1 = true then (barrowlaw02_GoodsFits.j0 k a0 l1 a2 (bt185.2 != 0)) else (barrowlaw02_GoodsFits.j0 k a0 l1 a2 true))) = some r := h
  clear h
  replace H := Option.bind_eq_some_iff.mp H
  obtain ⟨⟨t185, t186⟩, A40, H⟩ := H
  replace H : (if t185 = true then (barrowlaw02_GoodsFits.j0 k a0 l1 a2 (t186 != 0)) else (barrowlaw02_GoodsFits.j0 k a0 l1 a2 true)) = some r := H
  have A4 := Aside0.mk A40
  clear A40
  have HC5 := Aside0.mk H
  clear H
  go_enter Try.func5, Try.ntmps5
  go_upto_region 2 with (first | ((with_reducible refine gate_callee (f := 12) rfl ?_); refine goesL_ (some 19) rfl rfl Try.func12 (by kernel_rfl) rfl #[.string (⟨#[64, 63, 42]⟩ : ByteArray), .string (⟨#[65, 66]⟩ : ByteArray)] rfl (by (try simp only [List.map_toArray, List.map_cons, List.map_nil]); first | done | rfl | (simp only [List.length_drop, List.length_take]; rfl)) ?_; (with_reducible refine (goods_Match.calls k (⟨#[64, 63, 42]⟩ : ByteArray) (⟨#[65, 66]⟩ : ByteArray) t185 t186 _ A4.out).mono ?_); rintro e w6 ⟨rfl, hb⟩; refine ⟨_, rfl, ?_⟩; have n0_ := Aside0.mk (below_step (by repeat (first | (with_reducible first | exact HB.out | apply below_alloc | apply pw_below_drewN | apply below_drew1) | exact HB.out)) hb); clear HB; have HB := n0_; clear n0_; (try clear hb); (try clear hb2); (try clear hk); (try clear hi)))
  (try simp only [Act.put, List.setIfInBounds_toArray, List.set_cons_zero, List.set_cons_succ])
  go_cut [27] (fun v27 wc => ∃ (kq : Nat) (x27_4 : Bool), v27 = .bool x27_4 ∧ Aside0 (barrowlaw02_GoodsFits.j0 kq a0 l1 a2 x27_4 = some r) ∧ Aside0 (kq ≤ k) ∧ Aside0 (Below w.heap.size w wc))
  case first =>
    have H := HC5.out
    clear HC5
    by_cases c7 : t185 = true
    · subst c7
      have H1 : (barrowlaw02_GoodsFits.j0 k a0 l1 a2 (t186 != 0)) = some r := by rw [if_pos rfl] at H; exact H
      clear H
      have H := H1
      clear H1
      have H' := Aside0.mk H
      clear H
      go_wp2
      go_meet
      case rel => exact ⟨_, ((t186 != 0)), (by first | rfl | (simp; done) | (simp [*]; done)), H', ⟨by first | omega | exact Nat.le_refl _⟩, ⟨by repeat (first | (with_reducible first | exact HB.out | apply below_alloc | apply pw_below_drewN | apply below_drew1) | exact HB.out)⟩⟩
    · replace c7 := Bool.eq_false_iff.mpr c7
      subst c7
      have H1 : (barrowlaw02_GoodsFits.j0 k a0 l1 a2 true) = some r := by rw [if_neg (show ¬ (false = true) by decide)] at H; exact H
      clear H
      have H := H1
      clear H1
      have H' := Aside0.mk H
      clear H
      go_wp2
      go_meet
      case rel => exact ⟨_, (true), (by first | rfl | (simp; done) | (simp [*]; done)), H', ⟨by first | omega | exact Nat.le_refl _⟩, ⟨by repeat (first | (with_reducible first | exact HB.out | apply below_alloc | apply pw_below_drewN | apply below_drew1) | exact HB.out)⟩⟩
  case rest =>
    clear HC5
    try clear c1
    try clear p2
    try clear c5
    try clear c7
    obtain ⟨kq, x27_4, rfl, HA, HJ4, HB⟩ := hcut
    cases kq with
    | zero => exact absurd HA.out (by simp [barrowlaw02_GoodsFits.j0])
    | succ kj4 =>
      have H := HA.out
      clear HA
      simp only [barrowlaw02_GoodsFits.j0] at H
      by_cases c8 : x27_4 = true
      · subst c8
        have H1 : (some false) = some r := by rw [if_pos rfl] at H; exact H
        clear H
        have H := H1
        clear H1
        obtain rfl := Option.some.inj H
        go_wp2
        go_ret
        exact ⟨by first | rfl | (simp [errW_none, errW_some] <;> rfl) | (simp [*, errW_none, errW_some] <;> rfl), by repeat (first | (with_reducible first | exact HB.out | apply below_alloc | apply pw_below_drewN | apply below_drew1) | exact HB.out)⟩
      · replace c8 := Bool.eq_false_iff.mpr c8
        subst c8
        have H1 : ((goods_Clean.f a0).bind fun bt187 => (if bt187.2 = 0 then (barrowlaw02_GoodsFits.j1 kj4 l1 a2 bt187.1) else (barrowlaw02_GoodsFits.j1 kj4 l1 a2 (⟨#[65, 66, 45, 49, 50, 46, 88]⟩ : ByteArray)))) = some r := by rw [if_neg (show ¬ (false = true) by decide)] at H; exact H
        clear H
        have H := H1
        clear H1
        replace H := Option.bind_eq_some_iff.mp H
        obtain ⟨⟨t187, t188⟩, A90, H⟩ := H
        replace H : (if t188 = 0 then (barrowlaw02_GoodsFits.j1 kj4 l1 a2 t187) else (barrowlaw02_GoodsFits.j1 kj4 l1 a2 (⟨#[65, 66, 45, 49, 50, 46, 88]⟩ : ByteArray))) = some r := H
        have A9 := Aside0.mk A90
        clear A90
        have HC10 := Aside0.mk H
        clear H
        go_upto_if 34 with (first | ((with_reducible refine gate_callee (f := 9) rfl ?_); refine goesL_ (some 30) rfl rfl Try.func9 (by kernel_rfl) rfl #[.string a0] rfl (by (try simp only [List.map_toArray, List.map_cons, List.map_nil]); first | done | rfl | (simp only [List.length_drop, List.length_take]; rfl)) ?_; (with_reducible refine (goods_Clean.calls a0 t187 t188 _ A9.out).mono ?_); rintro e w11 ⟨rfl, hb⟩; refine ⟨_, rfl, ?_⟩; have n0_ := Aside0.mk (below_step (by repeat (first | (with_reducible first | exact HB.out | apply below_alloc | apply pw_below_drewN | apply below_drew1) | exact HB.out)) hb); clear HB; have HB := n0_; clear n0_; (try clear hb); (try clear hb2); (try clear hk); (try clear hi)))
        (try simp only [Act.put, List.setIfInBounds_toArray, List.set_cons_zero, List.set_cons_succ])
        go_cut [9] (fun v9 wc => ∃ (kq : Nat) (x9_9 : ByteArray), v9 = .string x9_9 ∧ Aside0 (barrowlaw02_GoodsFits.j1 kq l1 a2 x9_9 = some r) ∧ Aside0 (kq ≤ kj4) ∧ Aside0 (Below w.heap.size w wc))
        case first =>
          have H := HC10.out
          clear HC10
          by_cases c12 : t188 = 0
          · rw [if_pos c12] at H
            have c12b0 : (t188 == 0) = true := beq_iff_eq.mpr c12
            have c12b1 : (t188 != 0) = false := bne_eq_false_iff_eq.mpr c12
            clear c12
            (first | rw [c12b0] | (simp only [i64_w, i32_w]; rw [c12b0]) | skip)
            have H' := Aside0.mk H
            clear H
            go_wp2
            go_meet
            case rel => exact ⟨_, (t187), (by first | rfl | (simp; done) | (simp [*]; done)), H', ⟨by have := HJ4.out; first | omega | exact Nat.le_refl _⟩, ⟨by repeat (first | (with_reducible first | exact HB.out | apply below_alloc | apply pw_below_drewN | apply below_drew1) | exact HB.out)⟩⟩
          · rw [if_neg c12] at H
            have c12b0 : (t188 == 0) = false := beq_eq_false_iff_ne.mpr c12
            have c12b1 : (t188 != 0) = true := bne_iff_ne.mpr c12
            (first | rw [c12b0] | (simp only [i64_w, i32_w]; rw [c12b0]) | skip)
            have H' := Aside0.mk H
            clear H
            go_wp2
            go_meet
            case rel => exact ⟨_, ((⟨#[65, 66, 45, 49, 50, 46, 88]⟩ : ByteArray)), (by first | rfl | (simp; done) | (simp [*]; done)), H', ⟨by have := HJ4.out; first | omega | exact Nat.le_refl _⟩, ⟨by repeat (first | (with_reducible first | exact HB.out | apply below_alloc | apply pw_below_drewN | apply below_drew1) | exact HB.out)⟩⟩
        case rest =>
          clear HC10
          try clear c1
          try clear p2
          try clear c5
          try clear c7
          try clear c8
          try clear c9
          try clear c12
          try clear c12b0
          try clear c12b1
          try clear p2
          obtain ⟨kq, x9_9, rfl, HA, HJ9, HB⟩ := hcut
          cases kq with
          | zero => exact absurd HA.out (by simp [barrowlaw02_GoodsFits.j1])
          | succ kj9 =>
            have H := HA.out
            clear HA
            simp only [barrowlaw02_GoodsFits.j1] at H
            have H' := Aside0.mk H
            clear H
            go_wp2
            go_loopg [11, 12, 13] kj9 (fun kq v11 v12 v13 w' => ∃ (x11_3 : List Int) (x12_3 : Bool) (x13_3 : Int), v12 = .bool x12_3 ∧ v13 = .int .i64 x13_3 ∧ Aside0 (barrowlaw02_GoodsFits.l0 kq l1 a2 x9_9 x11_3 x12_3 x13_3 = some r) ∧ Aside0 (kq ≤ kj9) ∧ Aside0 (Kd.R (Kd.int .u8) 5 w' w.heap.size (fun _ => True) v11 x11_3) ∧ Aside0 (Below w.heap.size w w'))
            case atStart => exact ⟨(([] : List Int)), (false), (0), (by first | rfl | (simp; done) | (simp [*]; done)), (by first | rfl | (simp; done) | (simp [*]; done)), H', ⟨Nat.le_refl _⟩, ⟨by first | exact Kd.R_nil _ _ _ _ _ | exact Kd.N_nil _ _ _ _ _ | exact Kd.V_nil _ _ _ _ _ | exact Kd.Q_nil _ _ _ _ _ | exact Kd.S_nil _ _ _ _ _⟩, ⟨by repeat (first | (with_reducible first | exact HB.out | apply below_alloc | apply pw_below_drewN | apply below_drew1) | exact HB.out)⟩⟩
            case round =>
              clear H'
              try clear c1
              try clear p2
              try clear c5
              try clear c7
              try clear c8
              try clear c9
              try clear c12
              try clear c12b0
              try clear c12b1
              try clear p2
              obtain ⟨x11_3, x12_3, x13_3, rfl, rfl, HA, HK3, HO_11, HB⟩ := hrel
              cases gk with
              | zero => exact absurd HA.out (by simp [barrowlaw02_GoodsFits.l0])
              | succ k3 =>
                have H := HA.out
                clear HA
                simp only [barrowlaw02_GoodsFits.l0] at H
                by_cases c13 : x13_3 < (x9_9.size : Int)
                · rw [if_pos c13] at H
                  have c13b0 : decide (x13_3 < (x9_9.size : Int)) = true := decide_eq_true c13
                  clear c13
                  have HC14 := Aside0.mk H
                  clear H
                  go_upto_if 44 with (fail)
                  go_cut [14] (fun v14 wc => ∃ (kq : Nat) (x14_13 : Int), v14 = .int .i64 x14_13 ∧ Aside0 (barrowlaw02_GoodsFits.j3 kq l1 a2 x9_9 x11_3 x12_3 x13_3 x14_13 = some r) ∧ Aside0 (kq ≤ k3) ∧ Aside0 (Kd.R (Kd.int .u8) 5 wc w.heap.size (fun _ => True) u11 x11_3) ∧ Aside0 (Below w.heap.size w wc))
                  case first =>
                    have H := HC14.out
                    clear HC14
                    by_cases c15 : x13_3 < (l1.length : Int)
                    · rw [if_pos c15] at H
                      have c15b0 : decide (x13_3 < (l1.length : Int)) = true := decide_eq_true c15
                      clear c15
                      (first | rw [c15b0] | (simp only [i64_w, i32_w]; rw [c15b0]) | skip)
                      by_cases c16 : 0 ≤ x13_3
                      · rw [if_pos c16] at H
                        have c16b0 : decide (0 ≤ x13_3) = true := decide_eq_true c16
                        clear c16
                        have H' := Aside0.mk H
                        clear H
                        have p189 : 0 ≤ (x13_3 : Int) := of_decide_eq_true (by first | (with_reducible assumption) | assumption)
                        have q189 : x13_3 < (l1.length : Int) := of_decide_eq_true (by first | (with_reducible assumption) | assumption)
                        obtain ⟨ad189, e189, hx189_0⟩ := Kd.at_int HR1.out x13_3 p189 q189
                        cases e189
                        replace hx189_0 := (HB.out.cell (World.block_lt_of_cell? w _ hx189_0)).trans hx189_0
                        replace p189 := eq_true p189
                        replace q189 := eq_true q189
                        go_wp2
                        go_meet
                        case rel => exact ⟨_, (Go.bits .and .i64 (rd l1 x13_3) 7), (by first | rfl | (simp; done) | (simp [*]; done)), H', ⟨by have := HJ4.out; have := HJ9.out; have := HK3.out; first | omega | exact Nat.le_refl _⟩, ⟨by (with_reducible repeat (first | apply Kd.R_alloc | apply Kd.R_drewN | apply Kd.R_drew)); exact HO_11.out⟩, ⟨by repeat (first | (with_reducible first | exact HB.out | apply below_alloc | apply pw_below_drewN | apply below_drew1) | exact HB.out)⟩⟩
                      · rw [if_neg c16] at H
                        exact absurd H (by simp)
                    · rw [if_neg c15] at H
                      have c15b0 : decide (x13_3 < (l1.length : Int)) = false := decide_eq_false c15
                      clear c15
                      (first | rw [c15b0] | (simp only [i64_w, i32_w]; rw [c15b0]) | skip)
                      have H' := Aside0.mk H
                      clear H
                      go_wp2
                      go_meet
                      case rel => exact ⟨_, (0), (by first | rfl | (simp; done) | (simp [*]; done)), H', ⟨by have := HJ4.out; have := HJ9.out; have := HK3.out; first | omega | exact Nat.le_refl _⟩, ⟨by (with_reducible repeat (first | apply Kd.R_alloc | apply Kd.R_drewN | apply Kd.R_drew)); exact HO_11.out⟩, ⟨by repeat (first | (with_reducible first | exact HB.out | apply below_alloc | apply pw_below_drewN | apply below_drew1) | exact HB.out)⟩⟩
                  case rest =>
                    clear HC14
                    try clear c1
                    try clear p1
                    try clear q1
                    try clear hx1
                    try clear p2
                    try clear c5
                    try clear c7
                    try clear c8
                    try clear c9
                    try clear c12
                    try clear c12b0
                    try clear c12b1
                    try clear c13
                    try clear c13b0
                    try clear c15
                    try clear c15b0
                    try clear c16
                    try clear c16b0
                    try clear hx189_0
                    try clear p189
                    try clear p2
                    try clear q189
                    obtain ⟨kq, x14_13, rfl, HA, HJ13, HO_11, HB⟩ := hcut
                    cases kq with
                    | zero => exact absurd HA.out (by simp [barrowlaw02_GoodsFits.j3])
                    | succ kj13 =>
                      have H := HA.out
                      clear HA
                      simp only [barrowlaw02_GoodsFits.j3] at H
                      by_cases c17 : 0 ≤ x13_3
                      · rw [if_pos c17] at H
                        have c17b0 : decide (0 ≤ x13_3) = true := decide_eq_true c17
                        clear c17
                        by_cases c18 : x13_3 < (x9_9.size : Int)
                        · rw [if_pos c18] at H
                          have c18b0 : decide (x13_3 < (x9_9.size : Int)) = true := decide_eq_true c18
                          clear c18
                          by_cases c20 : x14_13 = 1
                          · rw [if_pos c20] at H
                            have c20b0 : (x14_13 == 1) = true := beq_iff_eq.mpr c20
                            have c20b1 : (x14_13 != 1) = false := bne_eq_false_iff_eq.mpr c20
                            clear c20
                            by_cases c21 : x11_3.length < 140737488355328
                            · rw [if_pos c21] at H
                              have LMc21 := Aside0.mk c21
                              clear c21
                              obtain ⟨y190, hy190⟩ : ∃ y_ : List Int, y_ = (x11_3 ++ [63]) := ⟨_, rfl⟩
                              replace H : (barrowlaw02_GoodsFits.l0 kj13 l1 a2 x9_9 y190 x12_3 (wrap64 (x13_3 + 1))) = some r := by first | (rw [hy190]; with_reducible exact H) | (have H2_ := (Option.bind_some _ _).symm.trans H; rw [hy190]; with_reducible exact H2_) | (have H2_ := (Option.bind_some _ _).symm.trans H; with_reducible exact H2_) | with_reducible exact H | (rw [hy190]; exact H) | exact H
                              have Ny190 := Aside0.mk hy190
                              clear hy190
                              have H' := Aside0.mk H
                              clear H
                              have p19 : 0 ≤ (x13_3 : Int) := of_decide_eq_true (by first | (with_reducible assumption) | assumption)
                              have q19 : x13_3 < (x9_9.size : Int) := of_decide_eq_true (by first | (with_reducible assumption) | assumption)
                              have hx19 := bt_at x9_9 x13_3
                              replace p19 := eq_true p19
                              replace q19 := eq_true q19
                              go_wp2_with (first | ((with_reducible refine gate_builtin (b := .append) (xs := #[.tmp 60, .tmp 61]) rfl ?_); at_builtin; refine Kd.R_append (Kd.int .u8) (w0 := w) w.heap.size rfl (.tmp 60) (.tmp 61) 34 5 (.int .u8 0) 1 rfl Try.underlying34 info5 rfl (by decide) (by omega) u11 x11_3 63 [.int .u8 63] (fun _ => True) (fun _ => False) rfl rfl ?aP (fun _ hk => hk.elim) ?aF ?aO ?aB ?aS ?aL ?_; (case aP => exact rfl); (case aB => exact (by repeat (first | (with_reducible first | exact HB.out | apply below_alloc | apply pw_below_drewN | apply below_drew1) | exact HB.out))); (case aF => exact (fun _ _ => trivial)); (case aO => exact (by (with_reducible repeat (first | apply Kd.R_alloc | apply Kd.R_drewN | apply Kd.R_drew)); exact HO_11.out)); (case aS => exact (below_size (by repeat (first | (with_reducible first | exact HB.out | apply below_alloc | apply pw_below_drewN | apply below_drew1) | exact HB.out)))); (case aL => have := LMc21.out; omega); intro v191 w22 ho hb hg hat; rw [← Ny190.out] at ho; have n0_ := Aside0.mk (hb); have n1_ := Aside0.mk (ho); clear HB; clear HO_11; have HB := n0_; have HO192 := n1_; clear n0_ n1_; clear ho hb hg hat))
                              go_roundg kj13
                              case measure => have := HJ4.out; have := HJ9.out; have := HK3.out; have := HJ13.out; omega
                              case rel => exact ⟨(y190), (x12_3), (wrap64 (x13_3 + 1)), (by first | rfl | (simp; done) | (simp [*]; done)), (by first | rfl | (simp; done) | (simp [*]; done)), H', ⟨by have := HJ4.out; have := HJ9.out; have := HK3.out; have := HJ13.out; omega⟩, ⟨by (with_reducible repeat (first | apply Kd.R_alloc | apply Kd.R_drewN | apply Kd.R_drew)); exact HO192.out⟩, ⟨by repeat (first | (with_reducible first | exact HB.out | apply below_alloc | apply pw_below_drewN | apply below_drew1) | exact HB.out)⟩⟩
                            · rw [if_neg c21] at H
                              exact absurd H (by simp)
                          · rw [if_neg c20] at H
                            have c20b0 : (x14_13 == 1) = false := beq_eq_false_iff_ne.mpr c20
                            have c20b1 : (x14_13 != 1) = true := bne_iff_ne.mpr c20
                            have HC23 := Aside0.mk H
                            clear H
                            have p19 : 0 ≤ (x13_3 : Int) := of_decide_eq_true (by first | (with_reducible assumption) | assumption)
                            have q19 : x13_3 < (x9_9.size : Int) := of_decide_eq_true (by first | (with_reducible assumption) | assumption)
                            have hx19 := bt_at x9_9 x13_3
                            replace p19 := eq_true p19
                            replace q19 := eq_true q19
                            go_upto_region 19 with (fail)
                            go_cut [63] (fun v63 wc => ∃ (kq : Nat) (x63_22 : Bool), v63 = .bool x63_22 ∧ Aside0 (barrowlaw02_GoodsFits.j4 kq l1 a2 x9_9 x11_3 x12_3 x13_3 x14_13 (bt x9_9 x13_3) x63_22 = some r) ∧ Aside0 (kq ≤ kj13) ∧ Aside0 (Kd.R (Kd.int .u8) 5 wc w.heap.size (fun _ => True) u11 x11_3) ∧ Aside0 (Below w.heap.size w wc))
                            case first =>
                              have H := HC23.out
                              clear HC23
                              by_cases c24 : x14_13 = 2
                              · rw [if_pos c24] at H
                                have c24b0 : (x14_13 == 2) = true := beq_iff_eq.mpr c24
                                have c24b1 : (x14_13 != 2) = false := bne_eq_false_iff_eq.mpr c24
                                clear c24
                                (first | rw [c24b0] | (simp only [i64_w, i32_w]; rw [c24b0]) | skip)
                                by_cases c25 : (bt x9_9 x13_3) ≥ 48
                                · rw [if_pos c25] at H
                                  have c25b0 : decide (48 ≤ (bt x9_9 x13_3)) = true := decide_eq_true c25
                                  clear c25
                                  have H' := Aside0.mk H
                                  clear H
                                  go_wp2
                                  go_meet
                                  case rel => exact ⟨_, (decide ((bt x9_9 x13_3) ≤ 57)), (by first | rfl | (simp; done) | (simp [*]; done)), H', ⟨by have := HJ4.out; have := HJ9.out; have := HK3.out; have := HJ13.out; first | omega | exact Nat.le_refl _⟩, ⟨by (with_reducible repeat (first | apply Kd.R_alloc | apply Kd.R_drewN | apply Kd.R_drew)); exact HO_11.out⟩, ⟨by repeat (first | (with_reducible first | exact HB.out | apply below_alloc | apply pw_below_drewN | apply below_drew1) | exact HB.out)⟩⟩
                                · rw [if_neg c25] at H
                                  have c25b0 : decide (48 ≤ (bt x9_9 x13_3)) = false := decide_eq_false c25
                                  clear c25
                                  have H' := Aside0.mk H
                                  clear H
                                  go_wp2
                                  go_meet
                                  case rel => exact ⟨_, (false), (by first | rfl | (simp; done) | (simp [*]; done)), H', ⟨by have := HJ4.out; have := HJ9.out; have := HK3.out; have := HJ13.out; first | omega | exact Nat.le_refl _⟩, ⟨by (with_reducible repeat (first | apply Kd.R_alloc | apply Kd.R_drewN | apply Kd.R_drew)); exact HO_11.out⟩, ⟨by repeat (first | (with_reducible first | exact HB.out | apply below_alloc | apply pw_below_drewN | apply below_drew1) | exact HB.out)⟩⟩
                              · rw [if_neg c24] at H
                                have c24b0 : (x14_13 == 2) = false := beq_eq_false_iff_ne.mpr c24
                                have c24b1 : (x14_13 != 2) = true := bne_iff_ne.mpr c24
                                (first | rw [c24b0] | (simp only [i64_w, i32_w]; rw [c24b0]) | skip)
                                have H' := Aside0.mk H
                                clear H
                                go_wp2
                                go_meet
                                case rel => exact ⟨_, (false), (by first | rfl | (simp; done) | (simp [*]; done)), H', ⟨by have := HJ4.out; have := HJ9.out; have := HK3.out; have := HJ13.out; first | omega | exact Nat.le_refl _⟩, ⟨by (with_reducible repeat (first | apply Kd.R_alloc | apply Kd.R_drewN | apply Kd.R_drew)); exact HO_11.out⟩, ⟨by repeat (first | (with_reducible first | exact HB.out | apply below_alloc | apply pw_below_drewN | apply below_drew1) | exact HB.out)⟩⟩
                            case rest =>
                              clear HC23
                              try clear c1
                              try clear p1
                              try clear q1
                              try clear hx1
                              try clear c2
                              try clear p2
                              try clear c5
                              try clear p6
                              try clear c7
                              try clear c8
                              try clear c9
                              try clear c12
                              try clear c12b0
                              try clear c12b1
                              try clear c13
                              try clear c13b0
                              try clear c15
                              try clear c15b0
                              try clear c16
                              try clear c16b0
                              try clear c17
                              try clear c17b0
                              try clear c18
                              try clear c18b0
                              try clear p18
                              try clear q18
                              try clear hx18
                              try clear p19
                              try clear q19
                              try clear hx19
                              try clear c20
                              try clear c20b0
                              try clear c20b1
                              try clear c21
                              try clear c24
                              try clear c24b0
                              try clear c24b1
                              try clear c25
                              try clear c25b0
                              try clear hx189_0
                              try clear p1
                              try clear p189
                              try clear p19
                              try clear p2
                              try clear q1
                              try clear q189
                              try clear q19
                              obtain ⟨kq, x63_22, rfl, HA, HJ22, HO_11, HB⟩ := hcut
                              cases kq with
                              | zero => exact absurd HA.out (by simp [barrowlaw02_GoodsFits.j4])
                              | succ kj22 =>
                                have H := HA.out
                                clear HA
                                simp only [barrowlaw02_GoodsFits.j4] at H
                                by_cases c26 : x63_22 = true
                                · subst c26
                                  have H1 : (if x11_3.length < 140737488355328 then (barrowlaw02_GoodsFits.l0 kj22 l1 a2 x9_9 (x11_3 ++ [35]) x12_3 (wrap64 (x13_3 + 1))) else (none)) = some r := by rw [if_pos rfl] at H; exact H
                                  clear H
                                  have H := H1
                                  clear H1
                                  by_cases c27 : x11_3.length < 140737488355328
                                  · rw [if_pos c27] at H
                                    have LMc27 := Aside0.mk c27
                                    clear c27
                                    obtain ⟨y193, hy193⟩ : ∃ y_ : List Int, y_ = (x11_3 ++ [35]) := ⟨_, rfl⟩
                                    replace H : (barrowlaw02_GoodsFits.l0 kj22 l1 a2 x9_9 y193 x12_3 (wrap64 (x13_3 + 1))) = some r := by first | (rw [hy193]; with_reducible exact H) | (have H2_ := (Option.bind_some _ _).symm.trans H; rw [hy193]; with_reducible exact H2_) | (have H2_ := (Option.bind_some _ _).symm.trans H; with_reducible exact H2_) | with_reducible exact H | (rw [hy193]; exact H) | exact H
                                    have Ny193 := Aside0.mk hy193
                                    clear hy193
                                    have H' := Aside0.mk H
                                    clear H
                                    go_wp2_with (first | ((with_reducible refine gate_builtin (b := .append) (xs := #[.tmp 74, .tmp 75]) rfl ?_); at_builtin; refine Kd.R_append (Kd.int .u8) (w0 := w) w.heap.size rfl (.tmp 74) (.tmp 75) 34 5 (.int .u8 0) 1 rfl Try.underlying34 info5 rfl (by decide) (by omega) u11 x11_3 35 [.int .u8 35] (fun _ => True) (fun _ => False) rfl rfl ?aP (fun _ hk => hk.elim) ?aF ?aO ?aB ?aS ?aL ?_; (case aP => exact rfl); (case aB => exact (by repeat (first | (with_reducible first | exact HB.out | apply below_alloc | apply pw_below_drewN | apply below_drew1) | exact HB.out))); (case aF => exact (fun _ _ => trivial)); (case aO => exact (by (with_reducible repeat (first | apply Kd.R_alloc | apply Kd.R_drewN | apply Kd.R_drew)); exact HO_11.out)); (case aS => exact (below_size (by repeat (first | (with_reducible first | exact HB.out | apply below_alloc | apply pw_below_drewN | apply below_drew1) | exact HB.out)))); (case aL => have := LMc27.out; omega); intro v194 w28 ho hb hg hat; rw [← Ny193.out] at ho; have n0_ := Aside0.mk (hb); have n1_ := Aside0.mk (ho); clear HB; clear HO_11; have HB := n0_; have HO195 := n1_; clear n0_ n1_; clear ho hb hg hat))
                                    go_roundg kj22
                                    case measure => have := HJ4.out; have := HJ9.out; have := HK3.out; have := HJ13.out; have := HJ22.out; omega
                                    case rel => exact ⟨(y193), (x12_3), (wrap64 (x13_3 + 1)), (by first | rfl | (simp; done) | (simp [*]; done)), (by first | rfl | (simp; done) | (simp [*]; done)), H', ⟨by have := HJ4.out; have := HJ9.out; have := HK3.out; have := HJ13.out; have := HJ22.out; omega⟩, ⟨by (with_reducible repeat (first | apply Kd.R_alloc | apply Kd.R_drewN | apply Kd.R_drew)); exact HO195.out⟩, ⟨by repeat (first | (with_reducible first | exact HB.out | apply below_alloc | apply pw_below_drewN | apply below_drew1) | exact HB.out)⟩⟩
                                  · rw [if_neg c27] at H
                                    exact absurd H (by simp)
                                · replace c26 := Bool.eq_false_iff.mpr c26
                                  subst c26
                                  have H1 : (if x14_13 = 2 then (if (bt x9_9 x13_3) ≥ 65 then (barrowlaw02_GoodsFits.j5 kj22 l1 a2 x9_9 x11_3 x12_3 x13_3 x14_13 (bt x9_9 x13_3) (decide ((bt x9_9 x13_3) ≤ 90))) else (barrowlaw02_GoodsFits.j5 kj22 l1 a2 x9_9 x11_3 x12_3 x13_3 x14_13 (bt x9_9 x13_3) false)) else (barrowlaw02_GoodsFits.j5 kj22 l1 a2 x9_9 x11_3 x12_3 x13_3 x14_13 (bt x9_9 x13_3) false)) = some r := by rw [if_neg (show ¬ (false = true) by decide)] at H; exact H
                                  clear H
                                  have H := H1
                                  clear H1
                                  have HC29 := Aside0.mk H
                                  clear H
                                  go_upto_region 21 with (fail)
                                  go_cut [77] (fun v77 wc => ∃ (kq : Nat) (x77_28 : Bool), v77 = .bool x77_28 ∧ Aside0 (barrowlaw02_GoodsFits.j5 kq l1 a2 x9_9 x11_3 x12_3 x13_3 x14_13 (bt x9_9 x13_3) x77_28 = some r) ∧ Aside0 (kq ≤ kj22) ∧ Aside0 (Kd.R (Kd.int .u8) 5 wc w.heap.size (fun _ => True) u11 x11_3) ∧ Aside0 (Below w.heap.size w wc))
                                  case first =>
                                    have H := HC29.out
                                    clear HC29
                                    by_cases c30 : x14_13 = 2
                                    · rw [if_pos c30] at H
                                      have c30b0 : (x14_13 == 2) = true := beq_iff_eq.mpr c30
                                      have c30b1 : (x14_13 != 2) = false := bne_eq_false_iff_eq.mpr c30
                                      clear c30
                                      (first | rw [c30b0] | (simp only [i64_w, i32_w]; rw [c30b0]) | skip)
                                      by_cases c31 : (bt x9_9 x13_3) ≥ 65
                                      · rw [if_pos c31] at H
                                        have c31b0 : decide (65 ≤ (bt x9_9 x13_3)) = true := decide_eq_true c31
                                        clear c31
                                        have H' := Aside0.mk H
                                        clear H
                                        go_wp2
                                        go_meet
                                        case rel => exact ⟨_, (decide ((bt x9_9 x13_3) ≤ 90)), (by first | rfl | (simp; done) | (simp [*]; done)), H', ⟨by have := HJ4.out; have := HJ9.out; have := HK3.out; have := HJ13.out; have := HJ22.out; first | omega | exact Nat.le_refl _⟩, ⟨by (with_reducible repeat (first | apply Kd.R_alloc | apply Kd.R_drewN | apply Kd.R_drew)); exact HO_11.out⟩, ⟨by repeat (first | (with_reducible first | exact HB.out | apply below_alloc | apply pw_below_drewN | apply below_drew1) | exact HB.out)⟩⟩
                                      · rw [if_neg c31] at H
                                        have c31b0 : decide (65 ≤ (bt x9_9 x13_3)) = false := decide_eq_false c31
                                        clear c31
                                        have H' := Aside0.mk H
                                        clear H
                                        go_wp2
                                        go_meet
                                        case rel => exact ⟨_, (false), (by first | rfl | (simp; done) | (simp [*]; done)), H', ⟨by have := HJ4.out; have := HJ9.out; have := HK3.out; have := HJ13.out; have := HJ22.out; first | omega | exact Nat.le_refl _⟩, ⟨by (with_reducible repeat (first | apply Kd.R_alloc | apply Kd.R_drewN | apply Kd.R_drew)); exact HO_11.out⟩, ⟨by repeat (first | (with_reducible first | exact HB.out | apply below_alloc | apply pw_below_drewN | apply below_drew1) | exact HB.out)⟩⟩
                                    · rw [if_neg c30] at H
                                      have c30b0 : (x14_13 == 2) = false := beq_eq_false_iff_ne.mpr c30
                                      have c30b1 : (x14_13 != 2) = true := bne_iff_ne.mpr c30
                                      (first | rw [c30b0] | (simp only [i64_w, i32_w]; rw [c30b0]) | skip)
                                      have H' := Aside0.mk H
                                      clear H
                                      go_wp2
                                      go_meet
                                      case rel => exact ⟨_, (false), (by first | rfl | (simp; done) | (simp [*]; done)), H', ⟨by have := HJ4.out; have := HJ9.out; have := HK3.out; have := HJ13.out; have := HJ22.out; first | omega | exact Nat.le_refl _⟩, ⟨by (with_reducible repeat (first | apply Kd.R_alloc | apply Kd.R_drewN | apply Kd.R_drew)); exact HO_11.out⟩, ⟨by repeat (first | (with_reducible first | exact HB.out | apply below_alloc | apply pw_below_drewN | apply below_drew1) | exact HB.out)⟩⟩
                                  case rest =>
                                    clear HC29
                                    try clear c1
                                    try clear p1
                                    try clear q1
                                    try clear hx1
                                    try clear c2
                                    try clear p2
                                    try clear c3
                                    try clear c5
                                    try clear p6
                                    try clear c7
                                    try clear c8
                                    try clear c9
                                    try clear c12
                                    try clear c12b0
                                    try clear c12b1
                                    try clear c13
                                    try clear c13b0
                                    try clear c15
                                    try clear c15b0
                                    try clear c16
                                    try clear c16b0
                                    try clear c17
                                    try clear c17b0
                                    try clear c18
                                    try clear c18b0
                                    try clear p18
                                    try clear q18
                                    try clear hx18
                                    try clear p19
                                    try clear q19
                                    try clear hx19
                                    try clear c20
                                    try clear c20b0
                                    try clear c20b1
                                    try clear c21
                                    try clear c24
                                    try clear c24b0
                                    try clear c24b1
                                    try clear c25
                                    try clear c25b0
                                    try clear c26
                                    try clear c27
                                    try clear c30
                                    try clear c30b0
                                    try clear c30b1
                                    try clear c31
                                    try clear c31b0
                                    try clear hx189_0
                                    try clear p1
                                    try clear p18
                                    try clear p189
                                    try clear p19
                                    try clear p2
                                    try clear p6
                                    try clear q1
                                    try clear q18
                                    try clear q189
                                    try clear q19
                                    obtain ⟨kq, x77_28, rfl, HA, HJ28, HO_11, HB⟩ := hcut
                                    cases kq with
                                    | zero => exact absurd HA.out (by simp [barrowlaw02_GoodsFits.j5])
                                    | succ kj28 =>
                                      have H := HA.out
                                      clear HA
                                      simp only [barrowlaw02_GoodsFits.j5] at H
                                      by_cases c32 : x77_28 = true
                                      · subst c32
                                        have H1 : (if x11_3.length < 140737488355328 then (barrowlaw02_GoodsFits.l0 kj28 l1 a2 x9_9 (x11_3 ++ [64]) x12_3 (wrap64 (x13_3 + 1))) else (none)) = some r := by rw [if_pos rfl] at H; exact H
                                        clear H
                                        have H := H1
                                        clear H1
                                        by_cases c33 : x11_3.length < 140737488355328
                                        · rw [if_pos c33] at H
                                          have LMc33 := Aside0.mk c33
                                          clear c33
                                          obtain ⟨y196, hy196⟩ : ∃ y_ : List Int, y_ = (x11_3 ++ [64]) := ⟨_, rfl⟩
                                          replace H : (barrowlaw02_GoodsFits.l0 kj28 l1 a2 x9_9 y196 x12_3 (wrap64 (x13_3 + 1))) = some r := by first | (rw [hy196]; with_reducible exact H) | (have H2_ := (Option.bind_some _ _).symm.trans H; rw [hy196]; with_reducible exact H2_) | (have H2_ := (Option.bind_some _ _).symm.trans H; with_reducible exact H2_) | with_reducible exact H | (rw [hy196]; exact H) | exact H
                                          have Ny196 := Aside0.mk hy196
                                          clear hy196
                                          have H' := Aside0.mk H
                                          clear H
                                          go_wp2_with (first | ((with_reducible refine gate_builtin (b := .append) (xs := #[.tmp 88, .tmp 89]) rfl ?_); at_builtin; refine Kd.R_append (Kd.int .u8) (w0 := w) w.heap.size rfl (.tmp 88) (.tmp 89) 34 5 (.int .u8 0) 1 rfl Try.underlying34 info5 rfl (by decide) (by omega) u11 x11_3 64 [.int .u8 64] (fun _ => True) (fun _ => False) rfl rfl ?aP (fun _ hk => hk.elim) ?aF ?aO ?aB ?aS ?aL ?_; (case aP => exact rfl); (case aB => exact (by repeat (first | (with_reducible first | exact HB.out | apply below_alloc | apply pw_below_drewN | apply below_drew1) | exact HB.out))); (case aF => exact (fun _ _ => trivial)); (case aO => exact (by (with_reducible repeat (first | apply Kd.R_alloc | apply Kd.R_drewN | apply Kd.R_drew)); exact HO_11.out)); (case aS => exact (below_size (by repeat (first | (with_reducible first | exact HB.out | apply below_alloc | apply pw_below_drewN | apply below_drew1) | exact HB.out)))); (case aL => have := LMc33.out; omega); intro v197 w34 ho hb hg hat; rw [← Ny196.out] at ho; have n0_ := Aside0.mk (hb); have n1_ := Aside0.mk (ho); clear HB; clear HO_11; have HB := n0_; have HO198 := n1_; clear n0_ n1_; clear ho hb hg hat))
                                          go_roundg kj28
                                          case measure => have := HJ4.out; have := HJ9.out; have := HK3.out; have := HJ13.out; have := HJ22.out; have := HJ28.out; omega
                                          case rel => exact ⟨(y196), (x12_3), (wrap64 (x13_3 + 1)), (by first | rfl | (simp; done) | (simp [*]; done)), (by first | rfl | (simp; done) | (simp [*]; done)), H', ⟨by have := HJ4.out; have := HJ9.out; have := HK3.out; have := HJ13.out; have := HJ22.out; have := HJ28.out; omega⟩, ⟨by (with_reducible repeat (first | apply Kd.R_alloc | apply Kd.R_drewN | apply Kd.R_drew)); exact HO198.out⟩, ⟨by repeat (first | (with_reducible first | exact HB.out | apply below_alloc | apply pw_below_drewN | apply below_drew1) | exact HB.out)⟩⟩
                                        · rw [if_neg c33] at H
                                          exact absurd H (by simp)
                                      · replace c32 := Bool.eq_false_iff.mpr c32
                                        subst c32
                                        have H1 : (if x14_13 = 3 then (if x11_3.length < 140737488355328 then (barrowlaw02_GoodsFits.l0 kj28 l1 a2 x9_9 (x11_3 ++ [42]) true (wrap64 (x13_3 + 1))) else (none)) else (if x14_13 = 4 then ((some (([42, (bt x9_9 x13_3)] : List Int) : List Int)).bind fun y202 => (if x11_3.length + y202.length < 140737488355328 then (barrowlaw02_GoodsFits.l0 kj28 l1 a2 x9_9 (x11_3 ++ y202) true (wrap64 (x13_3 + 1))) else (none))) else (if x11_3.length < 140737488355328 then (barrowlaw02_GoodsFits.l0 kj28 l1 a2 x9_9 (x11_3 ++ [(bt x9_9 x13_3)]) x12_3 (wrap64 (x13_3 + 1))) else (none)))) = some r := by rw [if_neg (show ¬ (false = true) by decide)] at H; exact H
                                        clear H
                                        have H := H1
                                        clear H1
                                        by_cases c35 : x14_13 = 3
                                        · rw [if_pos c35] at H
                                          have c35b0 : (x14_13 == 3) = true := beq_iff_eq.mpr c35
                                          have c35b1 : (x14_13 != 3) = false := bne_eq_false_iff_eq.mpr c35
                                          clear c35
                                          by_cases c36 : x11_3.length < 140737488355328
                                          · rw [if_pos c36] at H
                                            have LMc36 := Aside0.mk c36
                                            clear c36
                                            obtain ⟨y199, hy199⟩ : ∃ y_ : List Int, y_ = (x11_3 ++ [42]) := ⟨_, rfl⟩
                                            replace H : (barrowlaw02_GoodsFits.l0 kj28 l1 a2 x9_9 y199 true (wrap64 (x13_3 + 1))) = some r := by first | (rw [hy199]; with_reducible exact H) | (have H2_ := (Option.bind_some _ _).symm.trans H; rw [hy199]; with_reducible exact H2_) | (have H2_ := (Option.bind_some _ _).symm.trans H; with_reducible exact H2_) | with_reducible exact H | (rw [hy199]; exact H) | exact H
                                            have Ny199 := Aside0.mk hy199
                                            clear hy199
                                            have H' := Aside0.mk H
                                            clear H
                                            go_wp2_with (first | ((with_reducible refine gate_builtin (b := .append) (xs := #[.tmp 94, .tmp 95]) rfl ?_); at_builtin; refine Kd.R_append (Kd.int .u8) (w0 := w) w.heap.size rfl (.tmp 94) (.tmp 95) 34 5 (.int .u8 0) 1 rfl Try.underlying34 info5 rfl (by decide) (by omega) u11 x11_3 42 [.int .u8 42] (fun _ => True) (fun _ => False) rfl rfl ?aP (fun _ hk => hk.elim) ?aF ?aO ?aB ?aS ?aL ?_; (case aP => exact rfl); (case aB => exact (by repeat (first | (with_reducible first | exact HB.out | apply below_alloc | apply pw_below_drewN | apply below_drew1) | exact HB.out))); (case aF => exact (fun _ _ => trivial)); (case aO => exact (by (with_reducible repeat (first | apply Kd.R_alloc | apply Kd.R_drewN | apply Kd.R_drew)); exact HO_11.out)); (case aS => exact (below_size (by repeat (first | (with_reducible first | exact HB.out | apply below_alloc | apply pw_below_drewN | apply below_drew1) | exact HB.out)))); (case aL => have := LMc36.out; omega); intro v200 w37 ho hb hg hat; rw [← Ny199.out] at ho; have n0_ := Aside0.mk (hb); have n1_ := Aside0.mk (ho); clear HB; clear HO_11; have HB := n0_; have HO201 := n1_; clear n0_ n1_; clear ho hb hg hat))
                                            go_roundg kj28
                                            case measure => have := HJ4.out; have := HJ9.out; have := HK3.out; have := HJ13.out; have := HJ22.out; have := HJ28.out; omega
                                            case rel => exact ⟨(y199), (true), (wrap64 (x13_3 + 1)), (by first | rfl | (simp; done) | (simp [*]; done)), (by first | rfl | (simp; done) | (simp [*]; done)), H', ⟨by have := HJ4.out; have := HJ9.out; have := HK3.out; have := HJ13.out; have := HJ22.out; have := HJ28.out; omega⟩, ⟨by (with_reducible repeat (first | apply Kd.R_alloc | apply Kd.R_drewN | apply Kd.R_drew)); exact HO201.out⟩, ⟨by repeat (first | (with_reducible first | exact HB.out | apply below_alloc | apply pw_below_drewN | apply below_drew1) | exact HB.out)⟩⟩
                                          · rw [if_neg c36] at H
                                            exact absurd H (by simp)
                                        · rw [if_neg c35] at H
                                          have c35b0 : (x14_13 == 3) = false := beq_eq_false_iff_ne.mpr c35
                                          have c35b1 : (x14_13 != 3) = true := bne_iff_ne.mpr c35
                                          by_cases c38 : x14_13 = 4
                                          · rw [if_pos c38] at H
                                            have c38b0 : (x14_13 == 4) = true := beq_iff_eq.mpr c38
                                            have c38b1 : (x14_13 != 4) = false := bne_eq_false_iff_eq.mpr c38
                                            clear c38
                                            obtain ⟨y202, hy202⟩ : ∃ y_ : List Int, y_ = (([42, (bt x9_9 x13_3)] : List Int)) := ⟨_, rfl⟩
                                            replace H : (if x11_3.length + y202.length < 140737488355328 then (barrowlaw02_GoodsFits.l0 kj28 l1 a2 x9_9 (x11_3 ++ y202) true (wrap64 (x13_3 + 1))) else (none)) = some r := by first | (rw [hy202]; with_reducible exact H) | (have H2_ := (Option.bind_some _ _).symm.trans H; rw [hy202]; with_reducible exact H2_) | (have H2_ := (Option.bind_some _ _).symm.trans H; with_reducible exact H2_) | with_reducible exact H | (rw [hy202]; exact H) | exact H
                                            have Ny202 := Aside0.mk hy202
                                            clear hy202
                                            by_cases c39 : x11_3.length + y202.length < 140737488355328
                                            · rw [if_pos c39] at H
                                              have LMc39 := Aside0.mk c39
                                              clear c39
                                              obtain ⟨y205, hy205⟩ : ∃ y_ : List Int, y_ = (x11_3 ++ y202) := ⟨_, rfl⟩
                                              replace H : (barrowlaw02_GoodsFits.l0 kj28 l1 a2 x9_9 y205 true (wrap64 (x13_3 + 1))) = some r := by first | (rw [hy205]; with_reducible exact H) | (have H2_ := (Option.bind_some _ _).symm.trans H; rw [hy205]; with_reducible exact H2_) | (have H2_ := (Option.bind_some _ _).symm.trans H; with_reducible exact H2_) | with_reducible exact H | (rw [hy205]; exact H) | exact H
                                              have Ny205 := Aside0.mk hy205
                                              clear hy205
                                              have H' := Aside0.mk H
                                              clear H
                                              go_wp2_with (first | ((with_reducible refine gate_dst (N := 102) rfl ?_); refine Kd.R_lit (Kd.int .u8) _ 5 ?hg (N := 102) ?hd (xs := ([42, (bt x9_9 x13_3)] : List Int)) (inner := [.int .u8 42, .int .u8 (bt x9_9 x13_3)]) (ok := fun _ => True) (okp := fun _ => True) ?hr ?hp (fun _ hk => hk) trivial (Below.refl _ _) (Nat.le_refl _) (by simp) ?_; (case hd => rfl); (case hg => rfl); (case hr => first | (go_simp; done) | (go_simp; rfl)); (case hp => exact (Reps.one (show Kd.M (Kd.int .u8) _ _ _ 42 [.int .u8 42] from rfl) (Reps.one (show Kd.M (Kd.int .u8) _ _ _ (bt x9_9 x13_3) [.int .u8 (bt x9_9 x13_3)] from rfl) (Reps.none _ _)))); intro v203 w40 ho41 hb hg_ hnew_; clear hg_ hnew_; (first | rw [← Ny202.out] at ho41 | (simp only [Int.reduceToNat] at ho41; rw [← Ny202.out] at ho41)); have n0_ := Aside0.mk (Kd.R_elder' (by (with_reducible repeat (first | apply Kd.R_alloc | apply Kd.R_drewN | apply Kd.R_drew)); exact HO_11.out) (Kd.R_base ho41) hb); have n1_ := Aside0.mk (Kd.R_lower (Kd.R_new' ho41 (Kd.R_lt (by (with_reducible repeat (first | apply Kd.R_alloc | apply Kd.R_drewN | apply Kd.R_drew)); exact HO_11.out))) (below_size (by repeat (first | (with_reducible first | exact HB.out | apply below_alloc | apply pw_below_drewN | apply below_drew1) | exact HB.out)))); have n2_ := Aside0.mk (below_step (by repeat (first | (with_reducible first | exact HB.out | apply below_alloc | apply pw_below_drewN | apply below_drew1) | exact HB.out)) hb); clear HO_11; clear HB; have HO_11 := n0_; have HO204 := n1_; have HB := n2_; clear n0_ n1_ n2_; clear hb ho41; obtain ⟨Ao43, co43, eo43⟩ := Kd.R_slice HO204.out; subst eo43) | ((with_reducible refine gate_builtin (b := .append) (xs := #[.tmp 100, .tmp 102]) rfl ?_); at_builtin; refine Kd.R_append_rows (Kd.int .u8) (w0 := w) w.heap.size rfl (.tmp 100) (.tmp 102) 34 5 (.int .u8 0) 1 rfl Try.underlying34 info5 rfl (by decide) (by omega) u11 x11_3 y202 _ _ _ (fun k_ => some k_ ≠ (.slice Ao43 y202.length co43 : Value).ownBlock) (fun _ => False) rfl rfl ?aO ?aR (fun _ _ h => h) (fun _ h => h.elim) ?aF ?aB ?aS ?aL ?_; (case aR => repeat (first | exact (Kd.R_reads' HO204.out).2.2 | (with_reducible refine Kd.C_alloc ?_ _) | (with_reducible refine Kd.C_drewN ?_ _) | (with_reducible refine Kd.C_drew ?_))); (case aB => exact (by repeat (first | (with_reducible first | exact HB.out | apply below_alloc | apply pw_below_drewN | apply below_drew1) | exact HB.out))); (case aF => exact (fun k_ hk => Kd.fresh' (Kd.R_lt (by (with_reducible repeat (first | apply Kd.R_alloc | apply Kd.R_drewN | apply Kd.R_drew)); exact HO204.out)) k_ hk)); (case aO => exact (by (with_reducible repeat (first | apply Kd.R_alloc | apply Kd.R_drewN | apply Kd.R_drew)); exact Kd.R_mono HO_11.out (fun _ hk => hk.2))); (case aS => exact (below_size (by repeat (first | (with_reducible first | exact HB.out | apply below_alloc | apply pw_below_drewN | apply below_drew1) | exact HB.out)))); (case aL => have := LMc39.out; omega); intro v206 w42 ho hb hg hat; rw [← Ny205.out] at ho; have n0_ := Aside0.mk (Kd.R_after (ok := (fun _ => True)) (by (with_reducible repeat (first | apply Kd.R_alloc | apply Kd.R_drewN | apply Kd.R_drew)); exact HO204.out) hg hat); have n1_ := Aside0.mk (hb); have n2_ := Aside0.mk (ho); clear HO204; clear HB; clear HO_11; have HO204 := n0_; have HB := n1_; have HO207 := n2_; clear n0_ n1_ n2_; clear ho hb hg hat))
                                              go_roundg kj28
                                              case measure => have := HJ4.out; have := HJ9.out; have := HK3.out; have := HJ13.out; have := HJ22.out; have := HJ28.out; omega
                                              case rel => exact ⟨(y205), (true), (wrap64 (x13_3 + 1)), (by first | rfl | (simp; done) | (simp [*]; done)), (by first | rfl | (simp; done) | (simp [*]; done)), H', ⟨by have := HJ4.out; have := HJ9.out; have := HK3.out; have := HJ13.out; have := HJ22.out; have := HJ28.out; omega⟩, ⟨by (with_reducible repeat (first | apply Kd.R_alloc | apply Kd.R_drewN | apply Kd.R_drew)); exact Kd.R_mono HO207.out (fun _ hk => trivial)⟩, ⟨by repeat (first | (with_reducible first | exact HB.out | apply below_alloc | apply pw_below_drewN | apply below_drew1) | exact HB.out)⟩⟩
                                            · rw [if_neg c39] at H
                                              exact absurd H (by simp)
                                          · rw [if_neg c38] at H
                                            have c38b0 : (x14_13 == 4) = false := beq_eq_false_iff_ne.mpr c38
                                            have c38b1 : (x14_13 != 4) = true := bne_iff_ne.mpr c38
                                            by_cases c44 : x11_3.length < 140737488355328
                                            · rw [if_pos c44] at H
                                              have LMc44 := Aside0.mk c44
                                              clear c44
                                              obtain ⟨y208, hy208⟩ : ∃ y_ : List Int, y_ = (x11_3 ++ [(bt x9_9 x13_3)]) := ⟨_, rfl⟩
                                              replace H : (barrowlaw02_GoodsFits.l0 kj28 l1 a2 x9_9 y208 x12_3 (wrap64 (x13_3 + 1))) = some r := by first | (rw [hy208]; with_reducible exact H) | (have H2_ := (Option.bind_some _ _).symm.trans H; rw [hy208]; with_reducible exact H2_) | (have H2_ := (Option.bind_some _ _).symm.trans H; with_reducible exact H2_) | with_reducible exact H | (rw [hy208]; exact H) | exact H
                                              have Ny208 := Aside0.mk hy208
                                              clear hy208
                                              have H' := Aside0.mk H
                                              clear H
                                              go_wp2_with (first | ((with_reducible refine gate_builtin (b := .append) (xs := #[.tmp 53, .tmp 55]) rfl ?_); at_builtin; refine Kd.R_append (Kd.int .u8) (w0 := w) w.heap.size rfl (.tmp 53) (.tmp 55) 34 5 (.int .u8 0) 1 rfl Try.underlying34 info5 rfl (by decide) (by omega) u11 x11_3 (bt x9_9 x13_3) [.int .u8 (bt x9_9 x13_3)] (fun _ => True) (fun _ => False) rfl rfl ?aP (fun _ hk => hk.elim) ?aF ?aO ?aB ?aS ?aL ?_; (case aP => exact rfl); (case aB => exact (by repeat (first | (with_reducible first | exact HB.out | apply below_alloc | apply pw_below_drewN | apply below_drew1) | exact HB.out))); (case aF => exact (fun _ _ => trivial)); (case aO => exact (by (with_reducible repeat (first | apply Kd.R_alloc | apply Kd.R_drewN | apply Kd.R_drew)); exact HO_11.out)); (case aS => exact (below_size (by repeat (first | (with_reducible first | exact HB.out | apply below_alloc | apply pw_below_drewN | apply below_drew1) | exact HB.out)))); (case aL => have := LMc44.out; omega); intro v209 w45 ho hb hg hat; rw [← Ny208.out] at ho; have n0_ := Aside0.mk (hb); have n1_ := Aside0.mk (ho); clear HB; clear HO_11; have HB := n0_; have HO210 := n1_; clear n0_ n1_; clear ho hb hg hat))
                                              go_roundg kj28
                                              case measure => have := HJ4.out; have := HJ9.out; have := HK3.out; have := HJ13.out; have := HJ22.out; have := HJ28.out; omega
                                              case rel => exact ⟨(y208), (x12_3), (wrap64 (x13_3 + 1)), (by first | rfl | (simp; done) | (simp [*]; done)), (by first | rfl | (simp; done) | (simp [*]; done)), H', ⟨by have := HJ4.out; have := HJ9.out; have := HK3.out; have := HJ13.out; have := HJ22.out; have := HJ28.out; omega⟩, ⟨by (with_reducible repeat (first | apply Kd.R_alloc | apply Kd.R_drewN | apply Kd.R_drew)); exact HO210.out⟩, ⟨by repeat (first | (with_reducible first | exact HB.out | apply below_alloc | apply pw_below_drewN | apply below_drew1) | exact HB.out)⟩⟩
                                            · rw [if_neg c44] at H
                                              exact absurd H (by simp)
                        · rw [if_neg c18] at H
                          exact absurd H (by simp)
                      · rw [if_neg c17] at H
                        exact absurd H (by simp)
                · rw [if_neg c13] at H
                  have c13b0 : decide (x13_3 < (x9_9.size : Int)) = false := decide_eq_false c13
                  clear c13
                  replace H := Option.bind_eq_some_iff.mp H
                  obtain ⟨⟨t211, t212⟩, A460, H⟩ := H
                  replace H : (if t211 = true then (barrowlaw02_GoodsFits.j6 k3 a2 x9_9 x11_3 x12_3 (t212 != 0)) else (barrowlaw02_GoodsFits.j6 k3 a2 x9_9 x11_3 x12_3 true)) = some r := H
                  have A46 := Aside0.mk A460
                  clear A460
                  have HC47 := Aside0.mk H
                  clear H
                  have hcv48 := own_string (P := Try.prog) Try.underlying34 Try.underlying5 Try.underlying9 (Kd.own_of_R HO_11.out)
                  go_upto_region 30 with (first | ((with_reducible refine gate_callee (f := 12) rfl ?_); refine goesL_ (some 108) rfl rfl Try.func12 (by kernel_rfl) rfl #[.string (strOfNums x11_3), .string x9_9] rfl (by (try simp only [List.map_toArray, List.map_cons, List.map_nil]); first | done | rfl | (simp only [List.length_drop, List.length_take]; rfl)) ?_; (with_reducible refine (goods_Match.calls k3 (strOfNums x11_3) x9_9 t211 t212 _ A46.out).mono ?_); rintro e w49 ⟨rfl, hb⟩; refine ⟨_, rfl, ?_⟩; have n0_ := Aside0.mk (Kd.R_below (by (with_reducible repeat (first | apply Kd.R_alloc | apply Kd.R_drewN | apply Kd.R_drew)); exact HO_11.out) hb); have n1_ := Aside0.mk (below_step (by repeat (first | (with_reducible first | exact HB.out | apply below_alloc | apply pw_below_drewN | apply below_drew1) | exact HB.out)) hb); clear HO_11; clear HB; have HO_11 := n0_; have HB := n1_; clear n0_ n1_; (try clear hb); (try clear hb2); (try clear hk); (try clear hi)))
                  (try simp only [Act.put, List.setIfInBounds_toArray, List.set_cons_zero, List.set_cons_succ])
                  go_cut [116] (fun v116 wc => ∃ (kq : Nat) (x116_46 : Bool), v116 = .bool x116_46 ∧ Aside0 (barrowlaw02_GoodsFits.j6 kq a2 x9_9 x11_3 x12_3 x116_46 = some r) ∧ Aside0 (kq ≤ k3) ∧ Aside0 (Kd.R (Kd.int .u8) 5 wc w.heap.size (fun _ => True) u11 x11_3) ∧ Aside0 (Below w.heap.size w wc))
                  case first =>
                    have H := HC47.out
                    clear HC47
                    by_cases c50 : t211 = true
                    · subst c50
                      have H1 : (barrowlaw02_GoodsFits.j6 k3 a2 x9_9 x11_3 x12_3 (t212 != 0)) = some r := by rw [if_pos rfl] at H; exact H
                      clear H
                      have H := H1
                      clear H1
                      have H' := Aside0.mk H
                      clear H
                      go_wp2
                      go_meet
                      case rel => exact ⟨_, ((t212 != 0)), (by first | rfl | (simp; done) | (simp [*]; done)), H', ⟨by have := HJ4.out; have := HJ9.out; have := HK3.out; first | omega | exact Nat.le_refl _⟩, ⟨by (with_reducible repeat (first | apply Kd.R_alloc | apply Kd.R_drewN | apply Kd.R_drew)); exact HO_11.out⟩, ⟨by repeat (first | (with_reducible first | exact HB.out | apply below_alloc | apply pw_below_drewN | apply below_drew1) | exact HB.out)⟩⟩
                    · replace c50 := Bool.eq_false_iff.mpr c50
                      subst c50
                      have H1 : (barrowlaw02_GoodsFits.j6 k3 a2 x9_9 x11_3 x12_3 true) = some r := by rw [if_neg (show ¬ (false = true) by decide)] at H; exact H
                      clear H
                      have H := H1
                      clear H1
                      have H' := Aside0.mk H
                      clear H
                      go_wp2
                      go_meet
                      case rel => exact ⟨_, (true), (by first | rfl | (simp; done) | (simp [*]; done)), H', ⟨by have := HJ4.out; have := HJ9.out; have := HK3.out; first | omega | exact Nat.le_refl _⟩, ⟨by (with_reducible repeat (first | apply Kd.R_alloc | apply Kd.R_drewN | apply Kd.R_drew)); exact HO_11.out⟩, ⟨by repeat (first | (with_reducible first | exact HB.out | apply below_alloc | apply pw_below_drewN | apply below_drew1) | exact HB.out)⟩⟩
                  case rest =>
                    clear HC47
                    try clear c1
                    try clear p1
                    try clear q1
                    try clear hx1
                    try clear c2
                    try clear p2
                    try clear c3
                    try clear c4
                    try clear hcv4
                    try clear c5
                    try clear p6
                    try clear c7
                    try clear c8
                    try clear c9
                    try clear c12
                    try clear c12b0
                    try clear c12b1
                    try clear c13
                    try clear c13b0
                    try clear c15
                    try clear c15b0
                    try clear c16
                    try clear c16b0
                    try clear c17
                    try clear c17b0
                    try clear c18
                    try clear c18b0
                    try clear p18
                    try clear q18
                    try clear hx18
                    try clear p19
                    try clear q19
                    try clear hx19
                    try clear c20
                    try clear c20b0
                    try clear c20b1
                    try clear c21
                    try clear c24
                    try clear c24b0
                    try clear c24b1
                    try clear c25
                    try clear c25b0
                    try clear c26
                    try clear c27
                    try clear c30
                    try clear c30b0
                    try clear c30b1
                    try clear c31
                    try clear c31b0
                    try clear c32
                    try clear c33
                    try clear c35
                    try clear c35b0
                    try clear c35b1
                    try clear c36
                    try clear c38
                    try clear c38b0
                    try clear c38b1
                    try clear c39
                    try clear c44
                    try clear hcv48
                    try clear c50
                    try clear hx189_0
                    try clear p1
                    try clear p18
                    try clear p189
                    try clear p19
                    try clear p2
                    try clear p6
                    try clear q1
                    try clear q18
                    try clear q189
                    try clear q19
                    obtain ⟨kq, x116_46, rfl, HA, HJ46, HO_11, HB⟩ := hcut
                    cases kq with
                    | zero => exact absurd HA.out (by simp [barrowlaw02_GoodsFits.j6])
                    | succ kj46 =>
                      have H := HA.out
                      clear HA
                      simp only [barrowlaw02_GoodsFits.j6] at H
                      by_cases c51 : x116_46 = true
                      · subst c51
                        have H1 : (some false) = some r := by rw [if_pos rfl] at H; exact H
                        clear H
                        have H := H1
                        clear H1
                        obtain rfl := Option.some.inj H
                        go_wp2
                        go_ret
                        exact ⟨by first | rfl | (simp [errW_none, errW_some] <;> rfl) | (simp [*, errW_none, errW_some] <;> rfl), by repeat (first | (with_reducible first | exact HB.out | apply below_alloc | apply pw_below_drewN | apply below_drew1) | exact HB.out)⟩
                      · replace c51 := Bool.eq_false_iff.mpr c51
                        subst c51
                        have H1 : (if (x9_9.size : Int) < 24 then (if (strOfNums x11_3).size + 1 ≤ 9223372036854775807 then ((goods_Match.f kj46 ((strOfNums x11_3) ++ (⟨#[63]⟩ : ByteArray)) x9_9).bind fun bt213 => (if x12_3 = true then (barrowlaw02_GoodsFits.j7 kj46 a2 x9_9) else (if bt213.1 = true then (some false) else (if bt213.2 = 0 then (barrowlaw02_GoodsFits.j7 kj46 a2 x9_9) else (some false))))) else (none)) else (barrowlaw02_GoodsFits.j7 kj46 a2 x9_9)) = some r := by rw [if_neg (show ¬ (false = true) by decide)] at H; exact H
                        clear H
                        have H := H1
                        clear H1
                        have HC52 := Aside0.mk H
                        clear H
                        go_upto_if 119 with (fail)
                        go_cut [] (fun wc => ∃ (kq : Nat), Aside0 (barrowlaw02_GoodsFits.j7 kq a2 x9_9 = some r) ∧ Aside0 (kq ≤ kj46) ∧ Aside0 (Below w.heap.size w wc))
                        case first =>
                          have H := HC52.out
                          clear HC52
                          by_cases c53 : (x9_9.size : Int) < 24
                          · rw [if_pos c53] at H
                            have c53b0 : decide ((x9_9.size : Int) < 24) = true := decide_eq_true c53
                            have c53b1 : decide (x9_9.size < 24) = true := decide_eq_true (by omega)
                            clear c53
                            (first | rw [c53b0] | (simp only [i64_w, i32_w]; rw [c53b0]) | skip)
                            by_cases c54 : (strOfNums x11_3).size + 1 ≤ 9223372036854775807
                            · rw [if_pos c54] at H
                              have c54b0 := eq_true c54
                              have c54b1 : decide ((strOfNums x11_3).size + 1 ≤ 9223372036854775807) = true := decide_eq_true c54
                              try have c54b2 : (9223372036854775807 < (strOfNums x11_3).size + 1) = False := eq_false (Nat.not_lt.2 c54)
                              replace H := Option.bind_eq_some_iff.mp H
                              obtain ⟨⟨t213, t214⟩, A550, H⟩ := H
                              replace H : (if x12_3 = true then (barrowlaw02_GoodsFits.j7 kj46 a2 x9_9) else (if t213 = true then (some false) else (if t214 = 0 then (barrowlaw02_GoodsFits.j7 kj46 a2 x9_9) else (some false)))) = some r := H
                              have A55 := Aside0.mk A550
                              clear A550
                              by_cases c56 : x12_3 = true
                              · subst c56
                                have H1 : (barrowlaw02_GoodsFits.j7 kj46 a2 x9_9) = some r := by rw [if_pos rfl] at H; exact H
                                clear H
                                have H := H1
                                clear H1
                                have H' := Aside0.mk H
                                clear H
                                have hcv57 := own_string (P := Try.prog) Try.underlying34 Try.underlying5 Try.underlying9 (Kd.own_of_R HO_11.out)
                                go_wp2_with (first | ((with_reducible refine gate_callee (f := 12) rfl ?_); refine goesL_ (some 125) rfl rfl Try.func12 (by kernel_rfl) rfl #[.string ((strOfNums x11_3) ++ (⟨#[63]⟩ : ByteArray)), .string x9_9] rfl (by (try simp only [List.map_toArray, List.map_cons, List.map_nil]); first | done | rfl | (simp only [List.length_drop, List.length_take]; rfl)) ?_; (with_reducible refine (goods_Match.calls kj46 ((strOfNums x11_3) ++ (⟨#[63]⟩ : ByteArray)) x9_9 t213 t214 _ A55.out).mono ?_); rintro e w58 ⟨rfl, hb⟩; refine ⟨_, rfl, ?_⟩; have n0_ := Aside0.mk (Kd.R_below (by (with_reducible repeat (first | apply Kd.R_alloc | apply Kd.R_drewN | apply Kd.R_drew)); exact HO_11.out) hb); have n1_ := Aside0.mk (below_step (by repeat (first | (with_reducible first | exact HB.out | apply below_alloc | apply pw_below_drewN | apply below_drew1) | exact HB.out)) hb); clear HO_11; clear HB; have HO_11 := n0_; have HB := n1_; clear n0_ n1_; (try clear hb); (try clear hb2); (try clear hk); (try clear hi)))
                                go_meet
                                case rel => exact ⟨_, H', ⟨by have := HJ4.out; have := HJ9.out; have := HK3.out; have := HJ46.out; first | omega | exact Nat.le_refl _⟩, ⟨by repeat (first | (with_reducible first | exact HB.out | apply below_alloc | apply pw_below_drewN | apply below_drew1) | exact HB.out)⟩⟩
                              · replace c56 := Bool.eq_false_iff.mpr c56
                                subst c56
                                have H1 : (if t213 = true then (some false) else (if t214 = 0 then (barrowlaw02_GoodsFits.j7 kj46 a2 x9_9) else (some false))) = some r := by rw [if_neg (show ¬ (false = true) by decide)] at H; exact H
                                clear H
                                have H := H1
                                clear H1
                                by_cases c59 : t213 = true
                                · subst c59
                                  have H1 : (some false) = some r := by rw [if_pos rfl] at H; exact H
                                  clear H
                                  have H := H1
                                  clear H1
                                  obtain rfl := Option.some.inj H
                                  have hcv60 := own_string (P := Try.prog) Try.underlying34 Try.underlying5 Try.underlying9 (Kd.own_of_R HO_11.out)
                                  go_wp2_with (first | ((with_reducible refine gate_callee (f := 12) rfl ?_); refine goesL_ (some 125) rfl rfl Try.func12 (by kernel_rfl) rfl #[.string ((strOfNums x11_3) ++ (⟨#[63]⟩ : ByteArray)), .string x9_9] rfl (by (try simp only [List.map_toArray, List.map_cons, List.map_nil]); first | done | rfl | (simp only [List.length_drop, List.length_take]; rfl)) ?_; (with_reducible refine (goods_Match.calls kj46 ((strOfNums x11_3) ++ (⟨#[63]⟩ : ByteArray)) x9_9 true t214 _ A55.out).mono ?_); rintro e w61 ⟨rfl, hb⟩; refine ⟨_, rfl, ?_⟩; have n0_ := Aside0.mk (Kd.R_below (by (with_reducible repeat (first | apply Kd.R_alloc | apply Kd.R_drewN | apply Kd.R_drew)); exact HO_11.out) hb); have n1_ := Aside0.mk (below_step (by repeat (first | (with_reducible first | exact HB.out | apply below_alloc | apply pw_below_drewN | apply below_drew1) | exact HB.out)) hb); clear HO_11; clear HB; have HO_11 := n0_; have HB := n1_; clear n0_ n1_; (try clear hb); (try clear hb2); (try clear hk); (try clear hi)))
                                  go_ret
                                  exact ⟨by first | rfl | (simp [errW_none, errW_some] <;> rfl) | (simp [*, errW_none, errW_some] <;> rfl), by repeat (first | (with_reducible first | exact HB.out | apply below_alloc | apply pw_below_drewN | apply below_drew1) | exact HB.out)⟩
                                · replace c59 := Bool.eq_false_iff.mpr c59
                                  subst c59
                                  have H1 : (if t214 = 0 then (barrowlaw02_GoodsFits.j7 kj46 a2 x9_9) else (some false)) = some r := by rw [if_neg (show ¬ (false = true) by decide)] at H; exact H
                                  clear H
                                  have H := H1
                                  clear H1
                                  by_cases c62 : t214 = 0
                                  · rw [if_pos c62] at H
                                    have c62b0 : (t214 == 0) = true := beq_iff_eq.mpr c62
                                    have c62b1 : (t214 != 0) = false := bne_eq_false_iff_eq.mpr c62
                                    clear c62
                                    have H' := Aside0.mk H
                                    clear H
                                    have hcv63 := own_string (P := Try.prog) Try.underlying34 Try.underlying5 Try.underlying9 (Kd.own_of_R HO_11.out)
                                    go_wp2_with (first | ((with_reducible refine gate_callee (f := 12) rfl ?_); refine goesL_ (some 125) rfl rfl Try.func12 (by kernel_rfl) rfl #[.string ((strOfNums x11_3) ++ (⟨#[63]⟩ : ByteArray)), .string x9_9] rfl (by (try simp only [List.map_toArray, List.map_cons, List.map_nil]); first | done | rfl | (simp only [List.length_drop, List.length_take]; rfl)) ?_; (with_reducible refine (goods_Match.calls kj46 ((strOfNums x11_3) ++ (⟨#[63]⟩ : ByteArray)) x9_9 false t214 _ A55.out).mono ?_); rintro e w64 ⟨rfl, hb⟩; refine ⟨_, rfl, ?_⟩; have n0_ := Aside0.mk (Kd.R_below (by (with_reducible repeat (first | apply Kd.R_alloc | apply Kd.R_drewN | apply Kd.R_drew)); exact HO_11.out) hb); have n1_ := Aside0.mk (below_step (by repeat (first | (with_reducible first | exact HB.out | apply below_alloc | apply pw_below_drewN | apply below_drew1) | exact HB.out)) hb); clear HO_11; clear HB; have HO_11 := n0_; have HB := n1_; clear n0_ n1_; (try clear hb); (try clear hb2); (try clear hk); (try clear hi)))
                                    go_meet
                                    case rel => exact ⟨_, H', ⟨by have := HJ4.out; have := HJ9.out; have := HK3.out; have := HJ46.out; first | omega | exact Nat.le_refl _⟩, ⟨by repeat (first | (with_reducible first | exact HB.out | apply below_alloc | apply pw_below_drewN | apply below_drew1) | exact HB.out)⟩⟩
                                  · rw [if_neg c62] at H
                                    have c62b0 : (t214 == 0) = false := beq_eq_false_iff_ne.mpr c62
                                    have c62b1 : (t214 != 0) = true := bne_iff_ne.mpr c62
                                    obtain rfl := Option.some.inj H
                                    have hcv65 := own_string (P := Try.prog) Try.underlying34 Try.underlying5 Try.underlying9 (Kd.own_of_R HO_11.out)
                                    go_wp2_with (first | ((with_reducible refine gate_callee (f := 12) rfl ?_); refine goesL_ (some 125) rfl rfl Try.func12 (by kernel_rfl) rfl #[.string ((strOfNums x11_3) ++ (⟨#[63]⟩ : ByteArray)), .string x9_9] rfl (by (try simp only [List.map_toArray, List.map_cons, List.map_nil]); first | done | rfl | (simp only [List.length_drop, List.length_take]; rfl)) ?_; (with_reducible refine (goods_Match.calls kj46 ((strOfNums x11_3) ++ (⟨#[63]⟩ : ByteArray)) x9_9 false t214 _ A55.out).mono ?_); rintro e w66 ⟨rfl, hb⟩; refine ⟨_, rfl, ?_⟩; have n0_ := Aside0.mk (Kd.R_below (by (with_reducible repeat (first | apply Kd.R_alloc | apply Kd.R_drewN | apply Kd.R_drew)); exact HO_11.out) hb); have n1_ := Aside0.mk (below_step (by repeat (first | (with_reducible first | exact HB.out | apply below_alloc | apply pw_below_drewN | apply below_drew1) | exact HB.out)) hb); clear HO_11; clear HB; have HO_11 := n0_; have HB := n1_; clear n0_ n1_; (try clear hb); (try clear hb2); (try clear hk); (try clear hi)))
                                    go_ret
                                    exact ⟨by first | rfl | (simp [errW_none, errW_some] <;> rfl) | (simp [*, errW_none, errW_some] <;> rfl), by repeat (first | (with_reducible first | exact HB.out | apply below_alloc | apply pw_below_drewN | apply below_drew1) | exact HB.out)⟩
                            · rw [if_neg c54] at H
                              exact absurd H (by simp)
                          · rw [if_neg c53] at H
                            have c53b0 : decide ((x9_9.size : Int) < 24) = false := decide_eq_false c53
                            have c53b1 : decide (x9_9.size < 24) = false := decide_eq_false (by omega)
                            clear c53
                            (first | rw [c53b0] | (simp only [i64_w, i32_w]; rw [c53b0]) | skip)
                            have H' := Aside0.mk H
                            clear H
                            go_wp2
                            go_meet
                            case rel => exact ⟨_, H', ⟨by have := HJ4.out; have := HJ9.out; have := HK3.out; have := HJ46.out; first | omega | exact Nat.le_refl _⟩, ⟨by repeat (first | (with_reducible first | exact HB.out | apply below_alloc | apply pw_below_drewN | apply below_drew1) | exact HB.out)⟩⟩
                        case rest =>
                          clear HC52
                          try clear c1
                          try clear p1
                          try clear q1
                          try clear hx1
                          try clear c2
                          try clear p2
                          try clear c3
                          try clear c4
                          try clear hcv4
                          try clear c5
                          try clear hcv5
                          try clear c6
                          try clear p6
                          try clear hcv6
                          try clear c7
                          try clear c8
                          try clear c9
                          try clear c12
                          try clear c12b0
                          try clear c12b1
                          try clear c13
                          try clear c13b0
                          try clear c15
                          try clear c15b0
                          try clear c16
                          try clear c16b0
                          try clear c17
                          try clear c17b0
                          try clear c18
                          try clear c18b0
                          try clear p18
                          try clear q18
                          try clear hx18
                          try clear p19
                          try clear q19
                          try clear hx19
                          try clear c20
                          try clear c20b0
                          try clear c20b1
                          try clear c21
                          try clear c24
                          try clear c24b0
                          try clear c24b1
                          try clear c25
                          try clear c25b0
                          try clear c26
                          try clear c27
                          try clear c30
                          try clear c30b0
                          try clear c30b1
                          try clear c31
                          try clear c31b0
                          try clear c32
                          try clear c33
                          try clear c35
                          try clear c35b0
                          try clear c35b1
                          try clear c36
                          try clear c38
                          try clear c38b0
                          try clear c38b1
                          try clear c39
                          try clear c44
                          try clear hcv48
                          try clear c50
                          try clear c51
                          try clear c53
                          try clear c53b0
                          try clear c53b1
                          try clear c54
                          try clear c54b0
                          try clear c54b1
                          try clear c54b2
                          try clear c56
                          try clear hcv57
                          try clear c59
                          try clear hcv60
                          try clear c62
                          try clear c62b0
                          try clear c62b1
                          try clear hcv63
                          try clear p64
                          try clear hcv65
                          try clear hx189_0
                          try clear p1
                          try clear p18
                          try clear p189
                          try clear p19
                          try clear p2
                          try clear p6
                          try clear q1
                          try clear q18
                          try clear q189
                          try clear q19
                          obtain ⟨kq, HA, HJ51, HB⟩ := hcut
                          cases kq with
                          | zero => exact absurd HA.out (by simp [barrowlaw02_GoodsFits.j7])
                          | succ kj51 =>
                            have H := HA.out
                            clear HA
                            simp only [barrowlaw02_GoodsFits.j7] at H
                            replace H := Option.bind_eq_some_iff.mp H
                            obtain ⟨⟨t215, t216⟩, A670, H⟩ := H
                            replace H : (if t216 = 0 then ((goods_Match.f kj51 x9_9 t215).bind fun bt217 => (if (bt217.1 == (x9_9.toList == t215.toList)) = true then (some (bt217.2 == 0)) else (some false))) else ((goods_Match.f kj51 x9_9 (⟨#[65, 66, 45, 49, 50, 46, 88]⟩ : ByteArray)).bind fun bt219 => (if (bt219.1 == (x9_9.toList == ([65, 66, 45, 49, 50, 46, 88] : List UInt8))) = true then (some (bt219.2 == 0)) else (some false)))) = some r := H
                            have A67 := Aside0.mk A670
                            clear A670
                            by_cases c68 : t216 = 0
                            · rw [if_pos c68] at H
                              have c68b0 : (t216 == 0) = true := beq_iff_eq.mpr c68
                              have c68b1 : (t216 != 0) = false := bne_eq_false_iff_eq.mpr c68
                              clear c68
                              replace H := Option.bind_eq_some_iff.mp H
                              obtain ⟨⟨t217, t218⟩, A690, H⟩ := H
                              replace H : (if (t217 == (x9_9.toList == t215.toList)) = true then (some (t218 == 0)) else (some false)) = some r := H
                              have A69 := Aside0.mk A690
                              clear A690
                              by_cases c70 : (t217 == (x9_9.toList == t215.toList)) = true
                              · rw [if_pos c70] at H
                                have c70b0 : (t217 == (x9_9.toList == t215.toList)) = true := c70
                                (try (have c70b1 : decide (t217 = (x9_9.toList == t215.toList)) = true := by simpa using c70))
                                (try (have c70b2 : (t217 == (x9_9.toList == t215.toList)) = true := by simpa using c70))
                                clear c70
                                obtain rfl := Option.some.inj H
                                go_wp2_with (first | ((with_reducible refine gate_callee (f := 9) rfl ?_); refine goesL_ (some 139) rfl rfl Try.func9 (by kernel_rfl) rfl #[.string a2] rfl (by (try simp only [List.map_toArray, List.map_cons, List.map_nil]); first | done | rfl | (simp only [List.length_drop, List.length_take]; rfl)) ?_; (with_reducible refine (goods_Clean.calls a2 t215 t216 _ A67.out).mono ?_); rintro e w71 ⟨rfl, hb⟩; refine ⟨_, rfl, ?_⟩; have n0_ := Aside0.mk (below_step (by repeat (first | (with_reducible first | exact HB.out | apply below_alloc | apply pw_below_drewN | apply below_drew1) | exact HB.out)) hb); clear HB; have HB := n0_; clear n0_; (try clear hb); (try clear hb2); (try clear hk); (try clear hi)) | ((with_reducible refine gate_callee (f := 12) rfl ?_); refine goesL_ (some 147) rfl rfl Try.func12 (by kernel_rfl) rfl #[.string x9_9, .string t215] rfl (by (try simp only [List.map_toArray, List.map_cons, List.map_nil]); first | done | rfl | (simp only [List.length_drop, List.length_take]; rfl)) ?_; (with_reducible refine (goods_Match.calls kj51 x9_9 t215 t217 t218 _ A69.out).mono ?_); rintro e w72 ⟨rfl, hb⟩; refine ⟨_, rfl, ?_⟩; have n0_ := Aside0.mk (below_step (by repeat (first | (with_reducible first | exact HB.out | apply below_alloc | apply pw_below_drewN | apply below_drew1) | exact HB.out)) hb); clear HB; have HB := n0_; clear n0_; (try clear hb); (try clear hb2); (try clear hk); (try clear hi)))
                                go_ret
                                exact ⟨by first | rfl | (simp [errW_none, errW_some] <;> rfl) | (simp [*, errW_none, errW_some] <;> rfl), by repeat (first | (with_reducible first | exact HB.out | apply below_alloc | apply pw_below_drewN | apply below_drew1) | exact HB.out)⟩
                              · rw [if_neg c70] at H
                                have c70b0 : (t217 == (x9_9.toList == t215.toList)) = false := by simpa using c70
                                (try (have c70b1 : decide (t217 = (x9_9.toList == t215.toList)) = false := by simpa using c70))
                                (try (have c70b2 : (t217 == (x9_9.toList == t215.toList)) = false := by simpa using c70))
                                (try (have c70b3 : ¬ (t217 = (x9_9.toList == t215.toList)) := by simpa using c70))
                                clear c70
                                obtain rfl := Option.some.inj H
                                go_wp2_with (first | ((with_reducible refine gate_callee (f := 9) rfl ?_); refine goesL_ (some 139) rfl rfl Try.func9 (by kernel_rfl) rfl #[.string a2] rfl (by (try simp only [List.map_toArray, List.map_cons, List.map_nil]); first | done | rfl | (simp only [List.length_drop, List.length_take]; rfl)) ?_; (with_reducible refine (goods_Clean.calls a2 t215 t216 _ A67.out).mono ?_); rintro e w73 ⟨rfl, hb⟩; refine ⟨_, rfl, ?_⟩; have n0_ := Aside0.mk (below_step (by repeat (first | (with_reducible first | exact HB.out | apply below_alloc | apply pw_below_drewN | apply below_drew1) | exact HB.out)) hb); clear HB; have HB := n0_; clear n0_; (try clear hb); (try clear hb2); (try clear hk); (try clear hi)) | ((with_reducible refine gate_callee (f := 12) rfl ?_); refine goesL_ (some 147) rfl rfl Try.func12 (by kernel_rfl) rfl #[.string x9_9, .string t215] rfl (by (try simp only [List.map_toArray, List.map_cons, List.map_nil]); first | done | rfl | (simp only [List.length_drop, List.length_take]; rfl)) ?_; (with_reducible refine (goods_Match.calls kj51 x9_9 t215 t217 t218 _ A69.out).mono ?_); rintro e w74 ⟨rfl, hb⟩; refine ⟨_, rfl, ?_⟩; have n0_ := Aside0.mk (below_step (by repeat (first | (with_reducible first | exact HB.out | apply below_alloc | apply pw_below_drewN | apply below_drew1) | exact HB.out)) hb); clear HB; have HB := n0_; clear n0_; (try clear hb); (try clear hb2); (try clear hk); (try clear hi)))
                                go_ret
                                exact ⟨by first | rfl | (simp [errW_none, errW_some] <;> rfl) | (simp [*, errW_none, errW_some] <;> rfl), by repeat (first | (with_reducible first | exact HB.out | apply below_alloc | apply pw_below_drewN | apply below_drew1) | exact HB.out)⟩
                            · rw [if_neg c68] at H
                              have c68b0 : (t216 == 0) = false := beq_eq_false_iff_ne.mpr c68
                              have c68b1 : (t216 != 0) = true := bne_iff_ne.mpr c68
                              replace H := Option.bind_eq_some_iff.mp H
                              obtain ⟨⟨t219, t220⟩, A750, H⟩ := H
                              replace H : (if (t219 == (x9_9.toList == ([65, 66, 45, 49, 50, 46, 88] : List UInt8))) = true then (some (t220 == 0)) else (some false)) = some r := H
                              have A75 := Aside0.mk A750
                              clear A750
                              by_cases c76 : (t219 == (x9_9.toList == ([65, 66, 45, 49, 50, 46, 88] : List UInt8))) = true
                              · rw [if_pos c76] at H
                                have c76b0 : (t219 == (x9_9.toList == ([65, 66, 45, 49, 50, 46, 88] : List UInt8))) = true := c76
                                (try (have c76b1 : decide (t219 = (x9_9.toList == ([65, 66, 45, 49, 50, 46, 88] : List UInt8))) = true := by simpa using c76))
                                (try (have c76b2 : (t219 == (x9_9.toList == ([65, 66, 45, 49, 50, 46, 88] : List UInt8))) = true := by simpa using c76))
                                clear c76
                                obtain rfl := Option.some.inj H
                                go_wp2_with (first | ((with_reducible refine gate_callee (f := 9) rfl ?_); refine goesL_ (some 139) rfl rfl Try.func9 (by kernel_rfl) rfl #[.string a2] rfl (by (try simp only [List.map_toArray, List.map_cons, List.map_nil]); first | done | rfl | (simp only [List.length_drop, List.length_take]; rfl)) ?_; (with_reducible refine (goods_Clean.calls a2 t215 t216 _ A67.out).mono ?_); rintro e w77 ⟨rfl, hb⟩; refine ⟨_, rfl, ?_⟩; have n0_ := Aside0.mk (below_step (by repeat (first | (with_reducible first | exact HB.out | apply below_alloc | apply pw_below_drewN | apply below_drew1) | exact HB.out)) hb); clear HB; have HB := n0_; clear n0_; (try clear hb); (try clear hb2); (try clear hk); (try clear hi)) | ((with_reducible refine gate_callee (f := 12) rfl ?_); refine goesL_ (some 147) rfl rfl Try.func12 (by kernel_rfl) rfl #[.string x9_9, .string (⟨#[65, 66, 45, 49, 50, 46, 88]⟩ : ByteArray)] rfl (by (try simp only [List.map_toArray, List.map_cons, List.map_nil]); first | done | rfl | (simp only [List.length_drop, List.length_take]; rfl)) ?_; (with_reducible refine (goods_Match.calls kj51 x9_9 (⟨#[65, 66, 45, 49, 50, 46, 88]⟩ : ByteArray) t219 t220 _ A75.out).mono ?_); rintro e w78 ⟨rfl, hb⟩; refine ⟨_, rfl, ?_⟩; have n0_ := Aside0.mk (below_step (by repeat (first | (with_reducible first | exact HB.out | apply below_alloc | apply pw_below_drewN | apply below_drew1) | exact HB.out)) hb); clear HB; have HB := n0_; clear n0_; (try clear hb); (try clear hb2); (try clear hk); (try clear hi)))
                                go_ret
                                exact ⟨by first | rfl | (simp [errW_none, errW_some] <;> rfl) | (simp [*, errW_none, errW_some] <;> rfl), by repeat (first | (with_reducible first | exact HB.out | apply below_alloc | apply pw_below_drewN | apply below_drew1) | exact HB.out)⟩
                              · rw [if_neg c76] at H
                                have c76b0 : (t219 == (x9_9.toList == ([65, 66, 45, 49, 50, 46, 88] : List UInt8))) = false := by simpa using c76
                                (try (have c76b1 : decide (t219 = (x9_9.toList == ([65, 66, 45, 49, 50, 46, 88] : List UInt8))) = false := by simpa using c76))
                                (try (have c76b2 : (t219 == (x9_9.toList == ([65, 66, 45, 49, 50, 46, 88] : List UInt8))) = false := by simpa using c76))
                                (try (have c76b3 : ¬ (t219 = (x9_9.toList == ([65, 66, 45, 49, 50, 46, 88] : List UInt8))) := by simpa using c76))
                                clear c76
                                obtain rfl := Option.some.inj H
                                go_wp2_with (first | ((with_reducible refine gate_callee (f := 9) rfl ?_); refine goesL_ (some 139) rfl rfl Try.func9 (by kernel_rfl) rfl #[.string a2] rfl (by (try simp only [List.map_toArray, List.map_cons, List.map_nil]); first | done | rfl | (simp only [List.length_drop, List.length_take]; rfl)) ?_; (with_reducible refine (goods_Clean.calls a2 t215 t216 _ A67.out).mono ?_); rintro e w79 ⟨rfl, hb⟩; refine ⟨_, rfl, ?_⟩; have n0_ := Aside0.mk (below_step (by repeat (first | (with_reducible first | exact HB.out | apply below_alloc | apply pw_below_drewN | apply below_drew1) | exact HB.out)) hb); clear HB; have HB := n0_; clear n0_; (try clear hb); (try clear hb2); (try clear hk); (try clear hi)) | ((with_reducible refine gate_callee (f := 12) rfl ?_); refine goesL_ (some 147) rfl rfl Try.func12 (by kernel_rfl) rfl #[.string x9_9, .string (⟨#[65, 66, 45, 49, 50, 46, 88]⟩ : ByteArray)] rfl (by (try simp only [List.map_toArray, List.map_cons, List.map_nil]); first | done | rfl | (simp only [List.length_drop, List.length_take]; rfl)) ?_; (with_reducible refine (goods_Match.calls kj51 x9_9 (⟨#[65, 66, 45, 49, 50, 46, 88]⟩ : ByteArray) t219 t220 _ A75.out).mono ?_); rintro e w80 ⟨rfl, hb⟩; refine ⟨_, rfl, ?_⟩; have n0_ := Aside0.mk (below_step (by repeat (first | (with_reducible first | exact HB.out | apply below_alloc | apply pw_below_drewN | apply below_drew1) | exact HB.out)) hb); clear HB; have HB := n0_; clear n0_; (try clear hb); (try clear hb2); (try clear hk); (try clear hi)))
                                go_ret
                                exact ⟨by first | rfl | (simp [errW_none, errW_some] <;> rfl) | (simp [*, errW_none, errW_some] <;> rfl), by repeat (first | (with_reducible first | exact HB.out | apply below_alloc | apply pw_below_drewN | apply below_drew1) | exact HB.out)⟩

/-- THE ONE PURE STATEMENT of barrowlaw02_GoodsFits: yours. -/
def barrowlaw02_GoodsFits.Pure : Prop := ∀ (a0 : ByteArray) (l1 : List Int) (a2 : ByteArray), a0.size ≤ 140737488351232 → l1.length ≤ maxLen → l1.length * 8 ≤ 140737488351232 → (∀ x ∈ l1, (Lit.int .i64 x).wf = true) → a2.size ≤ 140737488351232 → ∃ k, barrowlaw02_GoodsFits.f k a0 l1 a2 = some true
theorem barrowlaw02_GoodsFits.walk (P : barrowlaw02_GoodsFits.Pure) (a0 : ByteArray) (a1 : Option Addr) (len1 cap1 : Nat) (z1 : List Int) (a2 : ByteArray) (w : World) (w0 : a0.size ≤ 140737488351232) (w1 : (a1 = none ∧ len1 = 0 ∧ cap1 = 0 ∧ z1 = []) ∨ ∃ x, a1 = some x ∧ len1 ≤ cap1 ∧ cap1 ≤ maxLen ∧ z1.length = cap1 ∧ (∀ i, i < z1.length → w.cell? (x.add i) = some (.int .i64 (z1.getD i 0))) ∧ ∀ n ∈ z1, (Lit.int .i64 n).wf = true) (y1 : len1 * 8 ≤ 140737488351232) (w2 : a2.size ≤ 140737488351232) :
    Calls Try.prog 5 #[.string a0, .slice a1 len1 cap1, .string a2] w fun e w' => e = .returned (.bool true) ∧ Below w.heap.size w w' := by
  obtain ⟨l1, rfl, hr1, hm1, hw1, hc1⟩ := ReadsInt.ofRowC w1
  obtain ⟨k, h⟩ := P a0 l1 a2 w0 hm1 y1 hw1 w2
  refine (barrowlaw02_GoodsFits.calls k a0 _ _ l1 a2 true w (Kd.C_of_reads (d := (0 : Int)) (h1 := fun _ => rfl) hr1) hc1 h).mono ?_
  rintro e w' ⟨rfl, hd⟩
  exact ⟨rfl, hd⟩

end Go.Proofs.Ytmicghhmbojkfaa.G
