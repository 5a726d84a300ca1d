-- PRINTED by print.py (a twelfth state) out of the translation. Not trusted: Lean checks it.
import Derived.Test.YtmicghhmbojkfaaGx0
import Derived.Test.YtmicghhmbojkfaaGx13
import Derived.Test.YtmicghhmbojkfaaGx17
import Derived.Test.YtmicghhmbojkfaaGx18
import Derived.Test.YtmicghhmbojkfaaDigit
namespace Go.Proofs.Ytmicghhmbojkfaa.G
open Go.RowKit Go.Proofs.YtmicghhmbojkfaaW.PrintWords Go.Proofs.YtmicghhmbojkfaaW.PrintLast Go.Proofs.YtmicghhmbojkfaaW.PrintMore
attribute [local go_sem] max2_int min2_int max_two min_two max_three min_three max_four min_four   -- for this text's walks alone
set_option linter.unusedVariables false
set_option linter.unusedSimpArgs false

/-! ### barrowlaw02_GoodsCheckDigit: function 6 -/
mutual
def barrowlaw02_GoodsCheckDigit.j0 : Nat → Int → Int → Int → Option (Bool)
 | 0, _, _, _ => none
 | k + 1, x0, x2, x7 => (barrowlaw02_turned.f k x0 x7).bind fun t238 => ((goods_Digit.f k (strOfNums t238)).bind fun bt241 => (if bt241.2 = 0 then (if bt241.1 < 0 then (barrowlaw02_GoodsCheckDigit.j1 k x2 x7 t238 bt241.1 true) else (barrowlaw02_GoodsCheckDigit.j1 k x2 x7 t238 bt241.1 (decide (bt241.1 > 9)))) else (barrowlaw02_GoodsCheckDigit.j1 k x2 x7 t238 bt241.1 true)))
def barrowlaw02_GoodsCheckDigit.j1 : Nat → Int → Int → List Int → Int → Bool → Option (Bool)
 | 0, _, _, _, _, _ => none
 | k + 1, x2, x7, x8, x9, x47 => if x47 = true then (some false) else (barrowlaw02_GoodsCheckDigit.l0 k x2 x7 x8 x9 0)
def barrowlaw02_GoodsCheckDigit.l0 : Nat → Int → Int → List Int → Int → Int → Option (Bool)
 | 0, _, _, _, _, _ => none
 | k + 1, x2, x7, x8, x9, x11 => if x11 < 10 then ((some (([(wrap64 (48 + x11)) % 256] : List Int) : List Int)).bind fun y243 => (if (strOfNums x8).size + (strOfNums y243).size ≤ 9223372036854775807 then ((goods_Gtin.f k ((strOfNums x8) ++ (strOfNums y243))).bind fun bt246 => (if x11 = x9 then (if bt246.1 = (wrap64 (x7 + 1)) then (barrowlaw02_GoodsCheckDigit.j3 k x2 x7 x8 x9 x11 bt246.1 bt246.2 (bt246.2 != 0)) else (barrowlaw02_GoodsCheckDigit.j3 k x2 x7 x8 x9 x11 bt246.1 bt246.2 true)) else (barrowlaw02_GoodsCheckDigit.j3 k x2 x7 x8 x9 x11 bt246.1 bt246.2 false))) else (none))) else ((some (([(wrap64 (48 + x9)) % 256] : List Int) : List Int)).bind fun y248 => (if (strOfNums x8).size + (strOfNums y248).size ≤ 9223372036854775807 then ((goods_Widen.f k ((strOfNums x8) ++ (strOfNums y248))).bind fun bt251 => (if bt251.2 = 0 then (if (bt251.1.size : Int) = 14 then (if 0 ≤ (wrap64 (14 - (((strOfNums x8) ++ (strOfNums y248)).size : Int))) then (if (wrap64 (14 - (((strOfNums x8) ++ (strOfNums y248)).size : Int))) ≤ (bt251.1.size : Int) then (barrowlaw02_GoodsCheckDigit.j4 k x2 x7 x8 x9 bt251.1 ((bt251.1.extract ((wrap64 (14 - (((strOfNums x8) ++ (strOfNums y248)).size : Int))) : Int).toNat bt251.1.size).toList != ((strOfNums x8) ++ (strOfNums y248)).toList)) else (none)) else (none)) else (barrowlaw02_GoodsCheckDigit.j4 k x2 x7 x8 x9 bt251.1 true)) else (barrowlaw02_GoodsCheckDigit.j4 k x2 x7 x8 x9 bt251.1 true))) else (none)))
def barrowlaw02_GoodsCheckDigit.j3 : Nat → Int → Int → List Int → Int → Int → Int → Int → Bool → Option (Bool)
 | 0, _, _, _, _, _, _, _, _ => none
 | k + 1, x2, x7, x8, x9, x11, x12, x13, x76 => if x76 = true then (some false) else (if x11 = x9 then (barrowlaw02_GoodsCheckDigit.l0 k x2 x7 x8 x9 (wrap64 (x11 + 1))) else (if x12 = 0 then (if x13 = 23 then (barrowlaw02_GoodsCheckDigit.l0 k x2 x7 x8 x9 (wrap64 (x11 + 1))) else (some false)) else (some false)))
def barrowlaw02_GoodsCheckDigit.j4 : Nat → Int → Int → List Int → Int → ByteArray → Bool → Option (Bool)
 | 0, _, _, _, _, _, _ => none
 | k + 1, x2, x7, x8, x9, x15, x116 => if x116 = true then (some false) else ((goods_Gtin.f k x15).bind fun bt253 => (if bt253.1 = 14 then (if bt253.2 = 0 then (if (IntKind.u64.wrap (x7)) = 0 then (none) else (if 0 ≤ (wrap64 (Int.tmod x2 (IntKind.u64.wrap (x7)))) then (if (wrap64 (Int.tmod x2 (IntKind.u64.wrap (x7)))) < (x8.length : Int) then ((some (x8.set ((wrap64 (Int.tmod x2 (IntKind.u64.wrap (x7)))) : Int).toNat ((wrap64 (48 + (Int.tmod (wrap64 ((((rd x8 (wrap64 (Int.tmod x2 (IntKind.u64.wrap (x7))))) - 48) % 256) + (wrap64 (1 + (wrap64 (Int.tmod (IntKind.u64.wrap (Int.tdiv x2 (IntKind.u64.wrap (x7)))) 9)))))) 10))) % 256) : List Int)).bind fun y256 => ((some (([(wrap64 (48 + x9)) % 256] : List Int) : List Int)).bind fun y257 => (if (strOfNums y256).size + (strOfNums y257).size ≤ 9223372036854775807 then ((goods_Gtin.f k ((strOfNums y256) ++ (strOfNums y257))).bind fun bt260 => (if bt260.1 = 0 then (some (bt260.2 == 23)) else (some false))) else (none)))) else (none)) else (none))) else (some false)) else (some false)))
end
def barrowlaw02_GoodsCheckDigit.f (k : Nat) (a0 : Int) (a1 : Int) (a2 : Int) : Option (Bool) := if (Go.bits .and .i64 a1 3) = 1 then (barrowlaw02_GoodsCheckDigit.j0 k a0 a2 11) else (if (Go.bits .and .i64 a1 3) = 2 then (barrowlaw02_GoodsCheckDigit.j0 k a0 a2 12) else (if (Go.bits .and .i64 a1 3) = 3 then (barrowlaw02_GoodsCheckDigit.j0 k a0 a2 13) else (barrowlaw02_GoodsCheckDigit.j0 k a0 a2 7)))
theorem barrowlaw02_GoodsCheckDigit.mono_l : ∀ k, (∀ y0 y1 y2, LeO (barrowlaw02_GoodsCheckDigit.j0 k y0 y1 y2) (barrowlaw02_GoodsCheckDigit.j0 (k + 1) y0 y1 y2)) ∧ (∀ y0 y1 y2 y3 y4, LeO (barrowlaw02_GoodsCheckDigit.j1 k y0 y1 y2 y3 y4) (barrowlaw02_GoodsCheckDigit.j1 (k + 1) y0 y1 y2 y3 y4)) ∧ (∀ y0 y1 y2 y3 y4, LeO (barrowlaw02_GoodsCheckDigit.l0 k y0 y1 y2 y3 y4) (barrowlaw02_GoodsCheckDigit.l0 (k + 1) y0 y1 y2 y3 y4)) ∧ (∀ y0 y1 y2 y3 y4 y5 y6 y7, LeO (barrowlaw02_GoodsCheckDigit.j3 k y0 y1 y2 y3 y4 y5 y6 y7) (barrowlaw02_GoodsCheckDigit.j3 (k + 1) y0 y1 y2 y3 y4 y5 y6 y7)) ∧ (∀ y0 y1 y2 y3 y4 y5, LeO (barrowlaw02_GoodsCheckDigit.j4 k y0 y1 y2 y3 y4 y5) (barrowlaw02_GoodsCheckDigit.j4 (k + 1) y0 y1 y2 y3 y4 y5))
 | 0 => ⟨fun _ _ _ r h => by simp [barrowlaw02_GoodsCheckDigit.j0] at h, fun _ _ _ _ _ r h => by simp [barrowlaw02_GoodsCheckDigit.j1] at h, fun _ _ _ _ _ r h => by simp [barrowlaw02_GoodsCheckDigit.l0] at h, fun _ _ _ _ _ _ _ _ r h => by simp [barrowlaw02_GoodsCheckDigit.j3] at h, fun _ _ _ _ _ _ r h => by simp [barrowlaw02_GoodsCheckDigit.j4] at h⟩
 | k + 1 => by
  obtain ⟨ih0, ih1, ih2, ih3, ih4⟩ := barrowlaw02_GoodsCheckDigit.mono_l k
  refine ⟨?_, ?_, ?_, ?_, ?_⟩
  ·intro y0 y1 y2
   unfold barrowlaw02_GoodsCheckDigit.j0
   repeat' first
   | (with_reducible exact ih0 _ _ _)
   | (with_reducible exact ih1 _ _ _ _ _)
   | (with_reducible exact ih2 _ _ _ _ _)
   | (with_reducible exact ih3 _ _ _ _ _ _ _ _)
   | (with_reducible exact ih4 _ _ _ _ _ _)
   | (with_reducible exact barrowlaw02_turned.mono _ _ _)
   | (with_reducible exact goods_Digit.mono _ _)
   | (with_reducible exact goods_Gtin.mono _ _)
   | (with_reducible exact goods_Widen.mono _ _)
   | (with_reducible exact LeO.refl _)
   | (with_reducible exact LeO.none _)
   | (with_reducible refine LeO.ite ?_ ?_)
   | (with_reducible refine LeO.bind ?_ (fun _ => ?_))
   | exact ih0 _ _ _
   | exact ih1 _ _ _ _ _
   | exact ih2 _ _ _ _ _
   | exact ih3 _ _ _ _ _ _ _ _
   | exact ih4 _ _ _ _ _ _
   | exact barrowlaw02_turned.mono _ _ _
   | exact goods_Digit.mono _ _
   | exact goods_Gtin.mono _ _
   | exact goods_Widen.mono _ _
   | exact LeO.none _
   | refine LeO.ite ?_ ?_
   | refine LeO.bind ?_ (fun _ => ?_)
  ·intro y0 y1 y2 y3 y4
   unfold barrowlaw02_GoodsCheckDigit.j1
   repeat' first
   | (with_reducible exact ih0 _ _ _)
   | (with_reducible exact ih1 _ _ _ _ _)
   | (with_reducible exact ih2 _ _ _ _ _)
   | (with_reducible exact ih3 _ _ _ _ _ _ _ _)
   | (with_reducible exact ih4 _ _ _ _ _ _)
   | (with_reducible exact barrowlaw02_turned.mono _ _ _)
   | (with_reducible exact goods_Digit.mono _ _)
   | (with_reducible exact goods_Gtin.mono _ _)
   | (with_reducible exact goods_Widen.mono _ _)
   | (with_reducible exact LeO.refl _)
   | (with_reducible exact LeO.none _)
   | (with_reducible refine LeO.ite ?_ ?_)
   | (with_reducible refine LeO.bind ?_ (fun _ => ?_))
   | exact ih0 _ _ _
   | exact ih1 _ _ _ _ _
   | exact ih2 _ _ _ _ _
   | exact ih3 _ _ _ _ _ _ _ _
   | exact ih4 _ _ _ _ _ _
   | exact barrowlaw02_turned.mono _ _ _
   | exact goods_Digit.mono _ _
   | exact goods_Gtin.mono _ _
   | exact goods_Widen.mono _ _
   | exact LeO.none _
   | refine LeO.ite ?_ ?_
   | refine LeO.bind ?_ (fun _ => ?_)
  ·intro y0 y1 y2 y3 y4
   unfold barrowlaw02_GoodsCheckDigit.l0
   repeat' first
   | (with_reducible exact ih0 _ _ _)
   | (with_reducible exact ih1 _ _ _ _ _)
   | (with_reducible exact ih2 _ _ _ _ _)
   | (with_reducible exact ih3 _ _ _ _ _ _ _ _)
   | (with_reducible exact ih4 _ _ _ _ _ _)
   | (with_reducible exact barrowlaw02_turned.mono _ _ _)
   | (with_reducible exact goods_Digit.mono _ _)
   | (with_reducible exact goods_Gtin.mono _ _)
   | (with_reducible exact goods_Widen.mono _ _)
   | (with_reducible exact LeO.refl _)
   | (with_reducible exact LeO.none _)
   | (with_reducible refine LeO.ite ?_ ?_)
   | (with_reducible refine LeO.bind ?_ (fun _ => ?_))
   | exact ih0 _ _ _
   | exact ih1 _ _ _ _ _
   | exact ih2 _ _ _ _ _
   | exact ih3 _ _ _ _ _ _ _ _
   | exact ih4 _ _ _ _ _ _
   | exact barrowlaw02_turned.mono _ _ _
   | exact goods_Digit.mono _ _
   | exact goods_Gtin.mono _ _
   | exact goods_Widen.mono _ _
   | exact LeO.none _
   | refine LeO.ite ?_ ?_
   | refine LeO.bind ?_ (fun _ => ?_)
  ·intro y0 y1 y2 y3 y4 y5 y6 y7
   unfold barrowlaw02_GoodsCheckDigit.j3
   repeat' first
   | (with_reducible exact ih0 _ _ _)
   | (with_reducible exact ih1 _ _ _ _ _)
   | (with_reducible exact ih2 _ _ _ _ _)
   | (with_reducible exact ih3 _ _ _ _ _ _ _ _)
   | (with_reducible exact ih4 _ _ _ _ _ _)
   | (with_reducible exact barrowlaw02_turned.mono _ _ _)
   | (with_reducible exact goods_Digit.mono _ _)
   | (with_reducible exact goods_Gtin.mono _ _)
   | (with_reducible exact goods_Widen.mono _ _)
   | (with_reducible exact LeO.refl _)
   | (with_reducible exact LeO.none _)
   | (with_reducible refine LeO.ite ?_ ?_)
   | (with_reducible refine LeO.bind ?_ (fun _ => ?_))
   | exact ih0 _ _ _
   | exact ih1 _ _ _ _ _
   | exact ih2 _ _ _ _ _
   | exact ih3 _ _ _ _ _ _ _ _
   | exact ih4 _ _ _ _ _ _
   | exact barrowlaw02_turned.mono _ _ _
   | exact goods_Digit.mono _ _
   | exact goods_Gtin.mono _ _
   | exact goods_Widen.mono _ _
   | exact LeO.none _
   | refine LeO.ite ?_ ?_
   | refine LeO.bind ?_ (fun _ => ?_)
  ·intro y0 y1 y2 y3 y4 y5
   unfold barrowlaw02_GoodsCheckDigit.j4
   repeat' first
   | (with_reducible exact ih0 _ _ _)
   | (with_reducible exact ih1 _ _ _ _ _)
   | (with_reducible exact ih2 _ _ _ _ _)
   | (with_reducible exact ih3 _ _ _ _ _ _ _ _)
   | (with_reducible exact ih4 _ _ _ _ _ _)
   | (with_reducible exact barrowlaw02_turned.mono _ _ _)
   | (with_reducible exact goods_Digit.mono _ _)
   | (with_reducible exact goods_Gtin.mono _ _)
   | (with_reducible exact goods_Widen.mono _ _)
   | (with_reducible exact LeO.refl _)
   | (with_reducible exact LeO.none _)
   | (with_reducible refine LeO.ite ?_ ?_)
   | (with_reducible refine LeO.bind ?_ (fun _ => ?_))
   | exact ih0 _ _ _
   | exact ih1 _ _ _ _ _
   | exact ih2 _ _ _ _ _
   | exact ih3 _ _ _ _ _ _ _ _
   | exact ih4 _ _ _ _ _ _
   | exact barrowlaw02_turned.mono _ _ _
   | exact goods_Digit.mono _ _
   | exact goods_Gtin.mono _ _
   | exact goods_Widen.mono _ _
   | exact LeO.none _
   | refine LeO.ite ?_ ?_
   | refine LeO.bind ?_ (fun _ => ?_)
theorem barrowlaw02_GoodsCheckDigit.mono : ∀ a0 a1 a2 k, LeO (barrowlaw02_GoodsCheckDigit.f k a0 a1 a2) (barrowlaw02_GoodsCheckDigit.f (k + 1) a0 a1 a2) := by
 intro a0 a1 a2 k
 obtain ⟨ih0, ih1, ih2, ih3, ih4⟩ := barrowlaw02_GoodsCheckDigit.mono_l k
 unfold barrowlaw02_GoodsCheckDigit.f
 repeat' first
   | (with_reducible exact ih0 _ _ _)
   | (with_reducible exact ih1 _ _ _ _ _)
   | (with_reducible exact ih2 _ _ _ _ _)
   | (with_reducible exact ih3 _ _ _ _ _ _ _ _)
   | (with_reducible exact ih4 _ _ _ _ _ _)
   | (with_reducible exact barrowlaw02_turned.mono _ _ _)
   | (with_reducible exact goods_Digit.mono _ _)
   | (with_reducible exact goods_Gtin.mono _ _)
   | (with_reducible exact goods_Widen.mono _ _)
   | (with_reducible exact LeO.refl _)
   | (with_reducible exact LeO.none _)
   | (with_reducible refine LeO.ite ?_ ?_)
   | (with_reducible refine LeO.bind ?_ (fun _ => ?_))
   | exact ih0 _ _ _
   | exact ih1 _ _ _ _ _
   | exact ih2 _ _ _ _ _
   | exact ih3 _ _ _ _ _ _ _ _
   | exact ih4 _ _ _ _ _ _
   | exact barrowlaw02_turned.mono _ _ _
   | exact goods_Digit.mono _ _
   | exact goods_Gtin.mono _ _
   | exact goods_Widen.mono _ _
   | exact LeO.none _
   | refine LeO.ite ?_ ?_
   | refine LeO.bind ?_ (fun _ => ?_)
set_option maxHeartbeats 8000000 in
set_option maxRecDepth 100000 in
theorem barrowlaw02_GoodsCheckDigit.calls (k : Nat) (a0 : Int) (a1 : Int) (a2 : Int) (r : Bool) (w : World) (h : barrowlaw02_GoodsCheckDigit.f k a0 a1 a2 = some r) :
  Calls Try.prog 6 #[.int .u64 a0, .int .i64 a1, .int .u64 a2] w fun e w' => e = .returned (.bool r) ∧ Below w.heap.size w w' := by
 have HB := Aside0.mk (Below.refl w.heap.size w)
 have H : (if (Go.bits .and .i64 a1 3) = 1 then (barrowlaw02_GoodsCheckDigit.j0 k a0 a2 11) else (if (Go.bits .and .i64 a1 3) = 2 then (barrowlaw02_GoodsCheckDigit.j0 k a0 a2 12) else (if (Go.bits .and .i64 a1 3) = 3 then (barrowlaw02_GoodsCheckDigit.j0 k a0 a2 13) else (barrowlaw02_GoodsCheckDigit.j0 k a0 a2 7)))) = some r := h
 clear h
 have HC4 := Aside0.mk H
 clear H
 go_enter Try.func6, Try.ntmps6
 go_upto_block 0 with (fail)
 go_cut [7] (fun v7 wc => ∃ (kq : Nat) (x7_3 : Int), v7 = .int .i64 x7_3 ∧ Aside0 (barrowlaw02_GoodsCheckDigit.j0 kq a0 a2 x7_3 = some r) ∧ Aside0 (kq ≤ k) ∧ Aside0 (Below w.heap.size w wc))
 case first =>
  have H := HC4.out
  clear HC4
  by_cases c5 : (Go.bits .and .i64 a1 3) = 1
  ·rw [if_pos c5] at H
   have c5b0 : ((Go.bits .and .i64 a1 3) == 1) = true := beq_iff_eq.mpr c5
   have c5b1 : ((Go.bits .and .i64 a1 3) != 1) = false := bne_eq_false_iff_eq.mpr c5
   clear c5
   (first | rw [c5b0] | (simp only [i64_w, i32_w]; rw [c5b0]) | skip)
   have H' := Aside0.mk H
   clear H
   go_wp2
   go_meet
   case rel => exact ⟨_, (11), (by first | rfl | (simp; done) | (simp [*]; done)), H', ⟨by first | omega | exact Nat.le_refl _⟩, ⟨by repeat (first | (with_reducible first | exact HB.out | apply below_alloc | apply pw_below_drewN | apply below_drew1) | exact HB.out)⟩⟩
  ·rw [if_neg c5] at H
   have c5b0 : ((Go.bits .and .i64 a1 3) == 1) = false := beq_eq_false_iff_ne.mpr c5
   have c5b1 : ((Go.bits .and .i64 a1 3) != 1) = true := bne_iff_ne.mpr c5
   (first | rw [c5b0] | (simp only [i64_w, i32_w]; rw [c5b0]) | skip)
   by_cases c6 : (Go.bits .and .i64 a1 3) = 2
   ·rw [if_pos c6] at H
    have c6b0 : ((Go.bits .and .i64 a1 3) == 2) = true := beq_iff_eq.mpr c6
    have c6b1 : ((Go.bits .and .i64 a1 3) != 2) = false := bne_eq_false_iff_eq.mpr c6
    clear c6
    have H' := Aside0.mk H
    clear H
    go_wp2
    go_meet
    case rel => exact ⟨_, (12), (by first | rfl | (simp; done) | (simp [*]; done)), H', ⟨by first | omega | exact Nat.le_refl _⟩, ⟨by repeat (first | (with_reducible first | exact HB.out | apply below_alloc | apply pw_below_drewN | apply below_drew1) | exact HB.out)⟩⟩
   ·rw [if_neg c6] at H
    have c6b0 : ((Go.bits .and .i64 a1 3) == 2) = false := beq_eq_false_iff_ne.mpr c6
    have c6b1 : ((Go.bits .and .i64 a1 3) != 2) = true := bne_iff_ne.mpr c6
    by_cases c7 : (Go.bits .and .i64 a1 3) = 3
    ·rw [if_pos c7] at H
     have c7b0 : ((Go.bits .and .i64 a1 3) == 3) = true := beq_iff_eq.mpr c7
     have c7b1 : ((Go.bits .and .i64 a1 3) != 3) = false := bne_eq_false_iff_eq.mpr c7
     clear c7
     have H' := Aside0.mk H
     clear H
     go_wp2
     go_meet
     case rel => exact ⟨_, (13), (by first | rfl | (simp; done) | (simp [*]; done)), H', ⟨by first | omega | exact Nat.le_refl _⟩, ⟨by repeat (first | (with_reducible first | exact HB.out | apply below_alloc | apply pw_below_drewN | apply below_drew1) | exact HB.out)⟩⟩
    ·rw [if_neg c7] at H
     have c7b0 : ((Go.bits .and .i64 a1 3) == 3) = false := beq_eq_false_iff_ne.mpr c7
     have c7b1 : ((Go.bits .and .i64 a1 3) != 3) = true := bne_iff_ne.mpr c7
     have H' := Aside0.mk H
     clear H
     go_wp2
     go_meet
     case rel => exact ⟨_, (7), (by first | rfl | (simp; done) | (simp [*]; done)), H', ⟨by first | omega | exact Nat.le_refl _⟩, ⟨by repeat (first | (with_reducible first | exact HB.out | apply below_alloc | apply pw_below_drewN | apply below_drew1) | exact HB.out)⟩⟩
 case rest =>
  clear HC4
  try clear p2
  try clear c5
  try clear c5b0
  try clear c5b1
  try clear c6
  try clear c6b0
  try clear c6b1
  try clear c7
  try clear c7b0
  try clear c7b1
  obtain ⟨kq, x7_3, rfl, HA, HJ3, HB⟩ := hcut
  cases kq with
  | zero => exact absurd HA.out (by simp [barrowlaw02_GoodsCheckDigit.j0])
  | succ kj3 =>
   have H := HA.out
   clear HA
   simp only [barrowlaw02_GoodsCheckDigit.j0] at H
   replace H := Option.bind_eq_some_iff.mp H
   obtain ⟨t238, A80, H⟩ := H
   replace H : ((goods_Digit.f kj3 (strOfNums t238)).bind fun bt241 => (if bt241.2 = 0 then (if bt241.1 < 0 then (barrowlaw02_GoodsCheckDigit.j1 kj3 a2 x7_3 t238 bt241.1 true) else (barrowlaw02_GoodsCheckDigit.j1 kj3 a2 x7_3 t238 bt241.1 (decide (bt241.1 > 9)))) else (barrowlaw02_GoodsCheckDigit.j1 kj3 a2 x7_3 t238 bt241.1 true))) = some r := H
   have A8 := Aside0.mk A80
   clear A80
   replace H := Option.bind_eq_some_iff.mp H
   obtain ⟨⟨t241, t242⟩, A90, H⟩ := H
   replace H : (if t242 = 0 then (if t241 < 0 then (barrowlaw02_GoodsCheckDigit.j1 kj3 a2 x7_3 t238 t241 true) else (barrowlaw02_GoodsCheckDigit.j1 kj3 a2 x7_3 t238 t241 (decide (t241 > 9)))) else (barrowlaw02_GoodsCheckDigit.j1 kj3 a2 x7_3 t238 t241 true)) = some r := H
   have A9 := Aside0.mk A90
   clear A90
   have HC10 := Aside0.mk H
   clear H
   go_upto_region 11 with (first | ((with_reducible refine gate_callee (f := 13) rfl ?_); refine goesL_ (some 31) rfl rfl Try.func13 (by kernel_rfl) rfl #[.int .u64 a0, .int .i64 x7_3] rfl (by (try simp only [List.map_toArray, List.map_cons, List.map_nil]); first | done | rfl | (simp only [List.length_drop, List.length_take]; rfl)) ?_; (with_reducible refine (barrowlaw02_turned.calls kj3 a0 x7_3 t238 _ A8.out).mono ?_); rintro e w11 ⟨v239, rfl, ho0, hb⟩; refine ⟨_, rfl, ?_⟩; have n0_ := Aside0.mk (Kd.R_lower ho0 (below_size (by repeat (first | (with_reducible first | exact HB.out | apply below_alloc | apply pw_below_drewN | apply below_drew1) | exact HB.out)))); have n1_ := Aside0.mk (below_step (by repeat (first | (with_reducible first | exact HB.out | apply below_alloc | apply pw_below_drewN | apply below_drew1) | exact HB.out)) hb); clear HB; have HO240 := n0_; have HB := n1_; clear n0_ n1_; (try clear hb); (try clear hb2); (try clear hk); (try clear hi); (try clear ho0); have hcv12 := own_string (P := Try.prog) Try.underlying34 Try.underlying5 Try.underlying9 (Kd.own_of_R HO240.out)) | ((with_reducible refine gate_callee (f := 14) rfl ?_); refine goesL_ (some 35) rfl rfl Try.func14 (by kernel_rfl) rfl #[.string (strOfNums t238)] rfl (by (try simp only [List.map_toArray, List.map_cons, List.map_nil]); first | done | rfl | (simp only [List.length_drop, List.length_take]; rfl)) ?_; (with_reducible refine (goods_Digit.calls kj3 (strOfNums t238) t241 t242 _ A9.out).mono ?_); rintro e w13 ⟨rfl, hb⟩; refine ⟨_, rfl, ?_⟩; have n0_ := Aside0.mk (Kd.R_below (by (with_reducible repeat (first | apply Kd.R_alloc | apply Kd.R_drewN | apply Kd.R_drew)); exact HO240.out) hb); have n1_ := Aside0.mk (below_step (by repeat (first | (with_reducible first | exact HB.out | apply below_alloc | apply pw_below_drewN | apply below_drew1) | exact HB.out)) hb); clear HO240; clear HB; have HO240 := n0_; have HB := n1_; clear n0_ n1_; (try clear hb); (try clear hb2); (try clear hk); (try clear hi)))
   (try simp only [Act.put, List.setIfInBounds_toArray, List.set_cons_zero, List.set_cons_succ])
   go_cut [47] (fun v47 wc => ∃ (kq : Nat) (x47_9 : Bool), v47 = .bool x47_9 ∧ Aside0 (barrowlaw02_GoodsCheckDigit.j1 kq a2 x7_3 t238 t241 x47_9 = some r) ∧ Aside0 (kq ≤ kj3) ∧ Aside0 (Kd.R (Kd.int .u8) 5 wc w.heap.size (fun _ => True) v239 t238) ∧ Aside0 (Below w.heap.size w wc))
   case first =>
    have H := HC10.out
    clear HC10
    by_cases c14 : t242 = 0
    ·rw [if_pos c14] at H
     have c14b0 : (t242 == 0) = true := beq_iff_eq.mpr c14
     have c14b1 : (t242 != 0) = false := bne_eq_false_iff_eq.mpr c14
     clear c14
     (first | rw [c14b0] | (simp only [i64_w, i32_w]; rw [c14b0]) | skip)
     by_cases c15 : t241 < 0
     ·rw [if_pos c15] at H
      have c15b0 : decide (t241 < 0) = true := decide_eq_true c15
      clear c15
      have H' := Aside0.mk H
      clear H
      go_wp2
      go_meet
      case rel => exact ⟨_, (true), (by first | rfl | (simp; done) | (simp [*]; done)), H', ⟨by have := HJ3.out; first | omega | exact Nat.le_refl _⟩, ⟨by (with_reducible repeat (first | apply Kd.R_alloc | apply Kd.R_drewN | apply Kd.R_drew)); exact HO240.out⟩, ⟨by repeat (first | (with_reducible first | exact HB.out | apply below_alloc | apply pw_below_drewN | apply below_drew1) | exact HB.out)⟩⟩
     ·rw [if_neg c15] at H
      have c15b0 : decide (t241 < 0) = false := decide_eq_false c15
      clear c15
      have H' := Aside0.mk H
      clear H
      go_wp2
      go_meet
      case rel => exact ⟨_, (decide (t241 > 9)), (by first | rfl | (simp; done) | (simp [*]; done)), H', ⟨by have := HJ3.out; first | omega | exact Nat.le_refl _⟩, ⟨by (with_reducible repeat (first | apply Kd.R_alloc | apply Kd.R_drewN | apply Kd.R_drew)); exact HO240.out⟩, ⟨by repeat (first | (with_reducible first | exact HB.out | apply below_alloc | apply pw_below_drewN | apply below_drew1) | exact HB.out)⟩⟩
    ·rw [if_neg c14] at H
     have c14b0 : (t242 == 0) = false := beq_eq_false_iff_ne.mpr c14
     have c14b1 : (t242 != 0) = true := bne_iff_ne.mpr c14
     (first | rw [c14b0] | (simp only [i64_w, i32_w]; rw [c14b0]) | skip)
     have H' := Aside0.mk H
     clear H
     go_wp2
     go_meet
     case rel => exact ⟨_, (true), (by first | rfl | (simp; done) | (simp [*]; done)), H', ⟨by have := HJ3.out; first | omega | exact Nat.le_refl _⟩, ⟨by (with_reducible repeat (first | apply Kd.R_alloc | apply Kd.R_drewN | apply Kd.R_drew)); exact HO240.out⟩, ⟨by repeat (first | (with_reducible first | exact HB.out | apply below_alloc | apply pw_below_drewN | apply below_drew1) | exact HB.out)⟩⟩
   case rest =>
    clear HC10
    try clear c1
    try clear hcv1
    try clear p2
    try clear c5
    try clear c5b0
    try clear c5b1
    try clear c6
    try clear c6b0
    try clear c6b1
    try clear c7
    try clear c7b0
    try clear c7b1
    try clear hcv12
    try clear c13
    try clear c14
    try clear c14b0
    try clear c14b1
    try clear c15
    try clear c15b0
    try clear p2
    obtain ⟨kq, x47_9, rfl, HA, HJ9, HO_8, HB⟩ := hcut
    cases kq with
    | zero => exact absurd HA.out (by simp [barrowlaw02_GoodsCheckDigit.j1])
    | succ kj9 =>
     have H := HA.out
     clear HA
     simp only [barrowlaw02_GoodsCheckDigit.j1] at H
     by_cases c16 : x47_9 = true
     ·subst c16
      have H1 : (some false) = some r := by rw [if_pos rfl] at H; exact H
      clear H
      have H := H1
      clear H1
      obtain rfl := Option.some.inj H
      go_wp2
      go_ret
      exact ⟨by first | rfl | (simp [errW_none, errW_some] <;> rfl) | (simp [*, errW_none, errW_some] <;> rfl), by repeat (first | (with_reducible first | exact HB.out | apply below_alloc | apply pw_below_drewN | apply below_drew1) | exact HB.out)⟩
     ·replace c16 := Bool.eq_false_iff.mpr c16
      subst c16
      have H1 : (barrowlaw02_GoodsCheckDigit.l0 kj9 a2 x7_3 t238 t241 0) = some r := by rw [if_neg (show ¬ (false = true) by decide)] at H; exact H
      clear H
      have H := H1
      clear H1
      have H' := Aside0.mk H
      clear H
      go_wp2
      go_loopg [11] kj9 (fun kq v11 w' => ∃ (x11_3 : Int), v11 = .int .i64 x11_3 ∧ Aside0 (barrowlaw02_GoodsCheckDigit.l0 kq a2 x7_3 t238 t241 x11_3 = some r) ∧ Aside0 (kq ≤ kj9) ∧ Aside0 (Kd.R (Kd.int .u8) 5 w' w.heap.size (fun _ => True) v239 t238) ∧ Aside0 (Below w.heap.size w w'))
      case atStart => exact ⟨(0), (by first | rfl | (simp; done) | (simp [*]; done)), H', ⟨Nat.le_refl _⟩, ⟨by (with_reducible repeat (first | apply Kd.R_alloc | apply Kd.R_drewN | apply Kd.R_drew)); exact HO_8.out⟩, ⟨by repeat (first | (with_reducible first | exact HB.out | apply below_alloc | apply pw_below_drewN | apply below_drew1) | exact HB.out)⟩⟩
      case round =>
       clear H'
       try clear c1
       try clear hcv1
       try clear p2
       try clear c5
       try clear c5b0
       try clear c5b1
       try clear c6
       try clear c6b0
       try clear c6b1
       try clear c7
       try clear c7b0
       try clear c7b1
       try clear hcv12
       try clear c13
       try clear c14
       try clear c14b0
       try clear c14b1
       try clear c15
       try clear c15b0
       try clear c16
       try clear p2
       obtain ⟨x11_3, rfl, HA, HK3, HO_8, HB⟩ := hrel
       cases gk with
       | zero => exact absurd HA.out (by simp [barrowlaw02_GoodsCheckDigit.l0])
       | succ k3 =>
        have H := HA.out
        clear HA
        simp only [barrowlaw02_GoodsCheckDigit.l0] at H
        by_cases c17 : x11_3 < 10
        ·rw [if_pos c17] at H
         have c17b0 : decide (x11_3 < 10) = true := decide_eq_true c17
         clear c17
         obtain ⟨y243, hy243⟩ : ∃ y_ : List Int, y_ = (([(wrap64 (48 + x11_3)) % 256] : List Int)) := ⟨_, rfl⟩
         replace H : (if (strOfNums t238).size + (strOfNums y243).size ≤ 9223372036854775807 then ((goods_Gtin.f k3 ((strOfNums t238) ++ (strOfNums y243))).bind fun bt246 => (if x11_3 = t241 then (if bt246.1 = (wrap64 (x7_3 + 1)) then (barrowlaw02_GoodsCheckDigit.j3 k3 a2 x7_3 t238 t241 x11_3 bt246.1 bt246.2 (bt246.2 != 0)) else (barrowlaw02_GoodsCheckDigit.j3 k3 a2 x7_3 t238 t241 x11_3 bt246.1 bt246.2 true)) else (barrowlaw02_GoodsCheckDigit.j3 k3 a2 x7_3 t238 t241 x11_3 bt246.1 bt246.2 false))) else (none)) = some r := by first | (rw [hy243]; with_reducible exact H) | (have H2_ := (Option.bind_some _ _).symm.trans H; rw [hy243]; with_reducible exact H2_) | (have H2_ := (Option.bind_some _ _).symm.trans H; with_reducible exact H2_) | with_reducible exact H | (rw [hy243]; exact H) | exact H
         have Ny243 := Aside0.mk hy243
         clear hy243
         by_cases c18 : (strOfNums t238).size + (strOfNums y243).size ≤ 9223372036854775807
         ·rw [if_pos c18] at H
          have c18b0 := eq_true c18
          have c18b1 : decide ((strOfNums t238).size + (strOfNums y243).size ≤ 9223372036854775807) = true := decide_eq_true c18
          try have c18b2 : (9223372036854775807 < (strOfNums t238).size + (strOfNums y243).size) = False := eq_false (Nat.not_lt.2 c18)
          try clear c18
          replace H := Option.bind_eq_some_iff.mp H
          obtain ⟨⟨t246, t247⟩, A190, H⟩ := H
          replace H : (if x11_3 = t241 then (if t246 = (wrap64 (x7_3 + 1)) then (barrowlaw02_GoodsCheckDigit.j3 k3 a2 x7_3 t238 t241 x11_3 t246 t247 (t247 != 0)) else (barrowlaw02_GoodsCheckDigit.j3 k3 a2 x7_3 t238 t241 x11_3 t246 t247 true)) else (barrowlaw02_GoodsCheckDigit.j3 k3 a2 x7_3 t238 t241 x11_3 t246 t247 false)) = some r := H
          have A19 := Aside0.mk A190
          clear A190
          have HC20 := Aside0.mk H
          clear H
          have hcv21 := own_string (P := Try.prog) Try.underlying34 Try.underlying5 Try.underlying9 (Kd.own_of_R HO_8.out)
          go_upto_region 17 with (first | ((with_reducible refine gate_dst (N := 58) rfl ?_); (try (refine gate_guard (by rfl) ?_; dsimp only)); refine Kd.R_lit (Kd.int .u8) _ 5 ?hg (N := 58) ?hd (xs := ([(wrap64 (48 + x11_3)) % 256] : List Int)) (inner := [.int .u8 ((wrap64 (48 + x11_3)) % 256)]) (ok := fun _ => True) (okp := fun _ => True) ?hr ?hp (fun _ hk => hk) trivial (Below.refl _ _) (Nat.le_refl _) (by simp) ?_; (case hd => rfl); (case hg => rfl); (case hr => first | (go_simp; done) | (go_simp; rfl)); (case hp => exact (Reps.one (show Kd.M (Kd.int .u8) _ _ _ ((wrap64 (48 + x11_3)) % 256) [.int .u8 ((wrap64 (48 + x11_3)) % 256)] from rfl) (Reps.none _ _))); intro v244 w22 ho23 hb hg_ hnew_; clear hg_ hnew_; (first | rw [← Ny243.out] at ho23 | (simp only [Int.reduceToNat] at ho23; rw [← Ny243.out] at ho23)); have n0_ := Aside0.mk (Kd.R_elder' (by (with_reducible repeat (first | apply Kd.R_alloc | apply Kd.R_drewN | apply Kd.R_drew)); exact HO_8.out) (Kd.R_base ho23) hb); have n1_ := Aside0.mk (Kd.R_lower (Kd.R_new' ho23 (Kd.R_lt (by (with_reducible repeat (first | apply Kd.R_alloc | apply Kd.R_drewN | apply Kd.R_drew)); exact HO_8.out))) (below_size (by repeat (first | (with_reducible first | exact HB.out | apply below_alloc | apply pw_below_drewN | apply below_drew1) | exact HB.out)))); have n2_ := Aside0.mk (below_step (by repeat (first | (with_reducible first | exact HB.out | apply below_alloc | apply pw_below_drewN | apply below_drew1) | exact HB.out)) hb); clear HO_8; clear HB; have HO_8 := n0_; have HO245 := n1_; have HB := n2_; clear n0_ n1_ n2_; clear hb ho23; have hcv24 := own_string (P := Try.prog) Try.underlying34 Try.underlying5 Try.underlying9 (Kd.own_of_R HO245.out)) | ((with_reducible refine gate_callee (f := 15) rfl ?_); refine goesL_ (some 61) rfl rfl Try.func15 (by kernel_rfl) rfl #[.string ((strOfNums t238) ++ (strOfNums y243))] rfl (by (try simp only [List.map_toArray, List.map_cons, List.map_nil]); first | done | rfl | (simp only [List.length_drop, List.length_take]; rfl)) ?_; (with_reducible refine (goods_Gtin.calls k3 ((strOfNums t238) ++ (strOfNums y243)) t246 t247 _ A19.out).mono ?_); rintro e w25 ⟨rfl, hb⟩; refine ⟨_, rfl, ?_⟩; have n0_ := Aside0.mk (Kd.R_below (by (with_reducible repeat (first | apply Kd.R_alloc | apply Kd.R_drewN | apply Kd.R_drew)); exact HO_8.out) hb); have n1_ := Aside0.mk (Kd.R_below (by (with_reducible repeat (first | apply Kd.R_alloc | apply Kd.R_drewN | apply Kd.R_drew)); exact HO245.out) hb); have n2_ := Aside0.mk (below_step (by repeat (first | (with_reducible first | exact HB.out | apply below_alloc | apply pw_below_drewN | apply below_drew1) | exact HB.out)) hb); clear HO_8; clear HO245; clear HB; have HO_8 := n0_; have HO245 := n1_; have HB := n2_; clear n0_ n1_ n2_; (try clear hb); (try clear hb2); (try clear hk); (try clear hi)))
          (try simp only [Act.put, List.setIfInBounds_toArray, List.set_cons_zero, List.set_cons_succ])
          go_cut [76] (fun v76 wc => ∃ (kq : Nat) (x76_19 : Bool), v76 = .bool x76_19 ∧ Aside0 (barrowlaw02_GoodsCheckDigit.j3 kq a2 x7_3 t238 t241 x11_3 t246 t247 x76_19 = some r) ∧ Aside0 (kq ≤ k3) ∧ Aside0 (Kd.R (Kd.int .u8) 5 wc w.heap.size (fun _ => True) v239 t238) ∧ Aside0 (Below w.heap.size w wc))
          case first =>
           have H := HC20.out
           clear HC20
           by_cases c26 : x11_3 = t241
           ·rw [if_pos c26] at H
            have c26b0 : (x11_3 == t241) = true := beq_iff_eq.mpr c26
            have c26b1 : (x11_3 != t241) = false := bne_eq_false_iff_eq.mpr c26
            clear c26
            (first | rw [c26b0] | (simp only [i64_w, i32_w]; rw [c26b0]) | skip)
            by_cases c27 : t246 = (wrap64 (x7_3 + 1))
            ·rw [if_pos c27] at H
             have c27b0 : (t246 == (wrap64 (x7_3 + 1))) = true := beq_iff_eq.mpr c27
             have c27b1 : (t246 != (wrap64 (x7_3 + 1))) = false := bne_eq_false_iff_eq.mpr c27
             clear c27
             have H' := Aside0.mk H
             clear H
             go_wp2
             go_meet
             case rel => exact ⟨_, ((t247 != 0)), (by first | rfl | (simp; done) | (simp [*]; done)), H', ⟨by have := HJ3.out; have := HJ9.out; have := HK3.out; first | omega | exact Nat.le_refl _⟩, ⟨by (with_reducible repeat (first | apply Kd.R_alloc | apply Kd.R_drewN | apply Kd.R_drew)); exact Kd.R_mono HO_8.out (fun _ hk => trivial)⟩, ⟨by repeat (first | (with_reducible first | exact HB.out | apply below_alloc | apply pw_below_drewN | apply below_drew1) | exact HB.out)⟩⟩
            ·rw [if_neg c27] at H
             have c27b0 : (t246 == (wrap64 (x7_3 + 1))) = false := beq_eq_false_iff_ne.mpr c27
             have c27b1 : (t246 != (wrap64 (x7_3 + 1))) = true := bne_iff_ne.mpr c27
             have H' := Aside0.mk H
             clear H
             go_wp2
             go_meet
             case rel => exact ⟨_, (true), (by first | rfl | (simp; done) | (simp [*]; done)), H', ⟨by have := HJ3.out; have := HJ9.out; have := HK3.out; first | omega | exact Nat.le_refl _⟩, ⟨by (with_reducible repeat (first | apply Kd.R_alloc | apply Kd.R_drewN | apply Kd.R_drew)); exact Kd.R_mono HO_8.out (fun _ hk => trivial)⟩, ⟨by repeat (first | (with_reducible first | exact HB.out | apply below_alloc | apply pw_below_drewN | apply below_drew1) | exact HB.out)⟩⟩
           ·rw [if_neg c26] at H
            have c26b0 : (x11_3 == t241) = false := beq_eq_false_iff_ne.mpr c26
            have c26b1 : (x11_3 != t241) = true := bne_iff_ne.mpr c26
            (first | rw [c26b0] | (simp only [i64_w, i32_w]; rw [c26b0]) | skip)
            have H' := Aside0.mk H
            clear H
            go_wp2
            go_meet
            case rel => exact ⟨_, (false), (by first | rfl | (simp; done) | (simp [*]; done)), H', ⟨by have := HJ3.out; have := HJ9.out; have := HK3.out; first | omega | exact Nat.le_refl _⟩, ⟨by (with_reducible repeat (first | apply Kd.R_alloc | apply Kd.R_drewN | apply Kd.R_drew)); exact Kd.R_mono HO_8.out (fun _ hk => trivial)⟩, ⟨by repeat (first | (with_reducible first | exact HB.out | apply below_alloc | apply pw_below_drewN | apply below_drew1) | exact HB.out)⟩⟩
          case rest =>
           clear HC20
           try clear c1
           try clear hcv1
           try clear c2
           try clear p2
           try clear hcv2
           try clear c5
           try clear c5b0
           try clear c5b1
           try clear c6
           try clear c6b0
           try clear c6b1
           try clear p6
           try clear c7
           try clear c7b0
           try clear c7b1
           try clear hcv12
           try clear c13
           try clear c14
           try clear c14b0
           try clear c14b1
           try clear c15
           try clear c15b0
           try clear c16
           try clear c17
           try clear c17b0
           try clear c18
           try clear c18b0
           try clear c18b1
           try clear c18b2
           try clear hcv21
           try clear hcv24
           try clear c26
           try clear c26b0
           try clear c26b1
           try clear c27
           try clear c27b0
           try clear c27b1
           try clear p2
           obtain ⟨kq, x76_19, rfl, HA, HJ19, HO_8, HB⟩ := hcut
           cases kq with
           | zero => exact absurd HA.out (by simp [barrowlaw02_GoodsCheckDigit.j3])
           | succ kj19 =>
            have H := HA.out
            clear HA
            simp only [barrowlaw02_GoodsCheckDigit.j3] at H
            by_cases c28 : x76_19 = true
            ·subst c28
             have H1 : (some false) = some r := by rw [if_pos rfl] at H; exact H
             clear H
             have H := H1
             clear H1
             obtain rfl := Option.some.inj H
             go_wp2
             go_ret
             exact ⟨by first | rfl | (simp [errW_none, errW_some] <;> rfl) | (simp [*, errW_none, errW_some] <;> rfl), by repeat (first | (with_reducible first | exact HB.out | apply below_alloc | apply pw_below_drewN | apply below_drew1) | exact HB.out)⟩
            ·replace c28 := Bool.eq_false_iff.mpr c28
             subst c28
             have H1 : (if x11_3 = t241 then (barrowlaw02_GoodsCheckDigit.l0 kj19 a2 x7_3 t238 t241 (wrap64 (x11_3 + 1))) else (if t246 = 0 then (if t247 = 23 then (barrowlaw02_GoodsCheckDigit.l0 kj19 a2 x7_3 t238 t241 (wrap64 (x11_3 + 1))) else (some false)) else (some false))) = some r := by rw [if_neg (show ¬ (false = true) by decide)] at H; exact H
             clear H
             have H := H1
             clear H1
             by_cases c29 : x11_3 = t241
             ·rw [if_pos c29] at H
              have c29b0 : (x11_3 == t241) = true := beq_iff_eq.mpr c29
              have c29b1 : (x11_3 != t241) = false := bne_eq_false_iff_eq.mpr c29
              clear c29
              have H' := Aside0.mk H
              clear H
              go_wp2
              go_roundg kj19
              case measure => have := HJ3.out; have := HJ9.out; have := HK3.out; have := HJ19.out; omega
              case rel => exact ⟨(wrap64 (x11_3 + 1)), (by first | rfl | (simp; done) | (simp [*]; done)), H', ⟨by have := HJ3.out; have := HJ9.out; have := HK3.out; have := HJ19.out; omega⟩, ⟨by (with_reducible repeat (first | apply Kd.R_alloc | apply Kd.R_drewN | apply Kd.R_drew)); exact HO_8.out⟩, ⟨by repeat (first | (with_reducible first | exact HB.out | apply below_alloc | apply pw_below_drewN | apply below_drew1) | exact HB.out)⟩⟩
             ·rw [if_neg c29] at H
              have c29b0 : (x11_3 == t241) = false := beq_eq_false_iff_ne.mpr c29
              have c29b1 : (x11_3 != t241) = true := bne_iff_ne.mpr c29
              by_cases c30 : t246 = 0
              ·rw [if_pos c30] at H
               have c30b0 : (t246 == 0) = true := beq_iff_eq.mpr c30
               have c30b1 : (t246 != 0) = false := bne_eq_false_iff_eq.mpr c30
               clear c30
               by_cases c31 : t247 = 23
               ·rw [if_pos c31] at H
                have c31b0 : (t247 == 23) = true := beq_iff_eq.mpr c31
                have c31b1 : (t247 != 23) = false := bne_eq_false_iff_eq.mpr c31
                clear c31
                have H' := Aside0.mk H
                clear H
                go_wp2
                go_roundg kj19
                case measure => have := HJ3.out; have := HJ9.out; have := HK3.out; have := HJ19.out; omega
                case rel => exact ⟨(wrap64 (x11_3 + 1)), (by first | rfl | (simp; done) | (simp [*]; done)), H', ⟨by have := HJ3.out; have := HJ9.out; have := HK3.out; have := HJ19.out; omega⟩, ⟨by (with_reducible repeat (first | apply Kd.R_alloc | apply Kd.R_drewN | apply Kd.R_drew)); exact HO_8.out⟩, ⟨by repeat (first | (with_reducible first | exact HB.out | apply below_alloc | apply pw_below_drewN | apply below_drew1) | exact HB.out)⟩⟩
               ·rw [if_neg c31] at H
                have c31b0 : (t247 == 23) = false := beq_eq_false_iff_ne.mpr c31
                have c31b1 : (t247 != 23) = true := bne_iff_ne.mpr c31
                obtain rfl := Option.some.inj H
                go_wp2
                go_ret
                exact ⟨by first | rfl | (simp [errW_none, errW_some] <;> rfl) | (simp [*, errW_none, errW_some] <;> rfl), by repeat (first | (with_reducible first | exact HB.out | apply below_alloc | apply pw_below_drewN | apply below_drew1) | exact HB.out)⟩
              ·rw [if_neg c30] at H
               have c30b0 : (t246 == 0) = false := beq_eq_false_iff_ne.mpr c30
               have c30b1 : (t246 != 0) = true := bne_iff_ne.mpr c30
               obtain rfl := Option.some.inj H
               go_wp2
               go_ret
               exact ⟨by first | rfl | (simp [errW_none, errW_some] <;> rfl) | (simp [*, errW_none, errW_some] <;> rfl), by repeat (first | (with_reducible first | exact HB.out | apply below_alloc | apply pw_below_drewN | apply below_drew1) | exact HB.out)⟩
         ·rw [if_neg c18] at H
          exact absurd H (by simp)
        ·rw [if_neg c17] at H
         have c17b0 : decide (x11_3 < 10) = false := decide_eq_false c17
         clear c17
         obtain ⟨y248, hy248⟩ : ∃ y_ : List Int, y_ = (([(wrap64 (48 + t241)) % 256] : List Int)) := ⟨_, rfl⟩
         replace H : (if (strOfNums t238).size + (strOfNums y248).size ≤ 9223372036854775807 then ((goods_Widen.f k3 ((strOfNums t238) ++ (strOfNums y248))).bind fun bt251 => (if bt251.2 = 0 then (if (bt251.1.size : Int) = 14 then (if 0 ≤ (wrap64 (14 - (((strOfNums t238) ++ (strOfNums y248)).size : Int))) then (if (wrap64 (14 - (((strOfNums t238) ++ (strOfNums y248)).size : Int))) ≤ (bt251.1.size : Int) then (barrowlaw02_GoodsCheckDigit.j4 k3 a2 x7_3 t238 t241 bt251.1 ((bt251.1.extract ((wrap64 (14 - (((strOfNums t238) ++ (strOfNums y248)).size : Int))) : Int).toNat bt251.1.size).toList != ((strOfNums t238) ++ (strOfNums y248)).toList)) else (none)) else (none)) else (barrowlaw02_GoodsCheckDigit.j4 k3 a2 x7_3 t238 t241 bt251.1 true)) else (barrowlaw02_GoodsCheckDigit.j4 k3 a2 x7_3 t238 t241 bt251.1 true))) else (none)) = some r := by first | (rw [hy248]; with_reducible exact H) | (have H2_ := (Option.bind_some _ _).symm.trans H; rw [hy248]; with_reducible exact H2_) | (have H2_ := (Option.bind_some _ _).symm.trans H; with_reducible exact H2_) | with_reducible exact H | (rw [hy248]; exact H) | exact H
         have Ny248 := Aside0.mk hy248
         clear hy248
         by_cases c32 : (strOfNums t238).size + (strOfNums y248).size ≤ 9223372036854775807
         ·rw [if_pos c32] at H
          have c32b0 := eq_true c32
          have c32b1 : decide ((strOfNums t238).size + (strOfNums y248).size ≤ 9223372036854775807) = true := decide_eq_true c32
          try have c32b2 : (9223372036854775807 < (strOfNums t238).size + (strOfNums y248).size) = False := eq_false (Nat.not_lt.2 c32)
          try clear c32
          replace H := Option.bind_eq_some_iff.mp H
          obtain ⟨⟨t251, t252⟩, A330, H⟩ := H
          replace H : (if t252 = 0 then (if (t251.size : Int) = 14 then (if 0 ≤ (wrap64 (14 - (((strOfNums t238) ++ (strOfNums y248)).size : Int))) then (if (wrap64 (14 - (((strOfNums t238) ++ (strOfNums y248)).size : Int))) ≤ (t251.size : Int) then (barrowlaw02_GoodsCheckDigit.j4 k3 a2 x7_3 t238 t241 t251 ((t251.extract ((wrap64 (14 - (((strOfNums t238) ++ (strOfNums y248)).size : Int))) : Int).toNat t251.size).toList != ((strOfNums t238) ++ (strOfNums y248)).toList)) else (none)) else (none)) else (barrowlaw02_GoodsCheckDigit.j4 k3 a2 x7_3 t238 t241 t251 true)) else (barrowlaw02_GoodsCheckDigit.j4 k3 a2 x7_3 t238 t241 t251 true)) = some r := H
          have A33 := Aside0.mk A330
          clear A330
          have HC34 := Aside0.mk H
          clear H
          have hcv35 := own_string (P := Try.prog) Try.underlying34 Try.underlying5 Try.underlying9 (Kd.own_of_R HO_8.out)
          go_upto_region 23 with (first | ((with_reducible refine gate_dst (N := 93) rfl ?_); (try (refine gate_guard (by rfl) ?_; dsimp only)); refine Kd.R_lit (Kd.int .u8) _ 5 ?hg (N := 93) ?hd (xs := ([(wrap64 (48 + t241)) % 256] : List Int)) (inner := [.int .u8 ((wrap64 (48 + t241)) % 256)]) (ok := fun _ => True) (okp := fun _ => True) ?hr ?hp (fun _ hk => hk) trivial (Below.refl _ _) (Nat.le_refl _) (by simp) ?_; (case hd => rfl); (case hg => rfl); (case hr => first | (go_simp; done) | (go_simp; rfl)); (case hp => exact (Reps.one (show Kd.M (Kd.int .u8) _ _ _ ((wrap64 (48 + t241)) % 256) [.int .u8 ((wrap64 (48 + t241)) % 256)] from rfl) (Reps.none _ _))); intro v249 w36 ho37 hb hg_ hnew_; clear hg_ hnew_; (first | rw [← Ny248.out] at ho37 | (simp only [Int.reduceToNat] at ho37; rw [← Ny248.out] at ho37)); have n0_ := Aside0.mk (Kd.R_elder' (by (with_reducible repeat (first | apply Kd.R_alloc | apply Kd.R_drewN | apply Kd.R_drew)); exact HO_8.out) (Kd.R_base ho37) hb); have n1_ := Aside0.mk (Kd.R_lower (Kd.R_new' ho37 (Kd.R_lt (by (with_reducible repeat (first | apply Kd.R_alloc | apply Kd.R_drewN | apply Kd.R_drew)); exact HO_8.out))) (below_size (by repeat (first | (with_reducible first | exact HB.out | apply below_alloc | apply pw_below_drewN | apply below_drew1) | exact HB.out)))); have n2_ := Aside0.mk (below_step (by repeat (first | (with_reducible first | exact HB.out | apply below_alloc | apply pw_below_drewN | apply below_drew1) | exact HB.out)) hb); clear HO_8; clear HB; have HO_8 := n0_; have HO250 := n1_; have HB := n2_; clear n0_ n1_ n2_; clear hb ho37; have hcv38 := own_string (P := Try.prog) Try.underlying34 Try.underlying5 Try.underlying9 (Kd.own_of_R HO250.out)) | ((with_reducible refine gate_callee (f := 16) rfl ?_); refine goesL_ (some 98) rfl rfl Try.func16 (by kernel_rfl) rfl #[.string ((strOfNums t238) ++ (strOfNums y248))] rfl (by (try simp only [List.map_toArray, List.map_cons, List.map_nil]); first | done | rfl | (simp only [List.length_drop, List.length_take]; rfl)) ?_; (with_reducible refine (goods_Widen.calls k3 ((strOfNums t238) ++ (strOfNums y248)) t251 t252 _ A33.out).mono ?_); rintro e w39 ⟨rfl, hb⟩; refine ⟨_, rfl, ?_⟩; have n0_ := Aside0.mk (Kd.R_below (by (with_reducible repeat (first | apply Kd.R_alloc | apply Kd.R_drewN | apply Kd.R_drew)); exact HO_8.out) hb); have n1_ := Aside0.mk (Kd.R_below (by (with_reducible repeat (first | apply Kd.R_alloc | apply Kd.R_drewN | apply Kd.R_drew)); exact HO250.out) hb); have n2_ := Aside0.mk (below_step (by repeat (first | (with_reducible first | exact HB.out | apply below_alloc | apply pw_below_drewN | apply below_drew1) | exact HB.out)) hb); clear HO_8; clear HO250; clear HB; have HO_8 := n0_; have HO250 := n1_; have HB := n2_; clear n0_ n1_ n2_; (try clear hb); (try clear hb2); (try clear hk); (try clear hi)))
          (try simp only [Act.put, List.setIfInBounds_toArray, List.set_cons_zero, List.set_cons_succ])
          go_cut [116] (fun v116 wc => ∃ (kq : Nat) (x116_33 : Bool), v116 = .bool x116_33 ∧ Aside0 (barrowlaw02_GoodsCheckDigit.j4 kq a2 x7_3 t238 t241 t251 x116_33 = some r) ∧ Aside0 (kq ≤ k3) ∧ Aside0 (Kd.R (Kd.int .u8) 5 wc w.heap.size (fun _ => True) v239 t238) ∧ Aside0 (Below w.heap.size w wc))
          case first =>
           have H := HC34.out
           clear HC34
           by_cases c40 : t252 = 0
           ·rw [if_pos c40] at H
            have c40b0 : (t252 == 0) = true := beq_iff_eq.mpr c40
            have c40b1 : (t252 != 0) = false := bne_eq_false_iff_eq.mpr c40
            clear c40
            (first | rw [c40b0] | (simp only [i64_w, i32_w]; rw [c40b0]) | skip)
            by_cases c41 : (t251.size : Int) = 14
            ·rw [if_pos c41] at H
             have c41b0 : ((t251.size : Int) == 14) = true := beq_iff_eq.mpr c41
             have c41b1 : ((t251.size : Int) != 14) = false := bne_eq_false_iff_eq.mpr c41
             clear c41
             obtain ⟨ji42, hji42⟩ : ∃ j_ : Int, (wrap64 (14 - (((strOfNums t238) ++ (strOfNums y248)).size : Int))) = j_ := ⟨_, rfl⟩
             replace H : (if 0 ≤ (ji42) then (if (ji42) ≤ (t251.size : Int) then (barrowlaw02_GoodsCheckDigit.j4 k3 a2 x7_3 t238 t241 t251 ((t251.extract ((ji42) : Int).toNat t251.size).toList != ((strOfNums t238) ++ (strOfNums y248)).toList)) else (none)) else (none)) = some r := by first | (rw [hji42] at H; exact H) | (simp only [hji42] at H ⊢; exact H)
             have hji42w : (IntKind.i64.wrap (14 - (((strOfNums t238) ++ (strOfNums y248)).size : Int))) = ji42 := (i64_w _).trans hji42
             (try (have hji42x := hji42; simp only [ByteArray.size_append, Int.natCast_add] at hji42x))
             by_cases c43 : 0 ≤ (ji42)
             ·rw [if_pos c43] at H
              have c43b0 := eq_true c43
              have c43b1 : decide (0 ≤ (ji42)) = true := decide_eq_true c43
              clear c43
              by_cases c44 : (ji42) ≤ (t251.size : Int)
              ·rw [if_pos c44] at H
               have c44b0 := eq_true c44
               have c44b1 : decide ((ji42) ≤ (t251.size : Int)) = true := decide_eq_true c44
               clear c44
               have H' := Aside0.mk H
               clear H
               go_wp2
               go_meet
               case rel => exact ⟨_, (((t251.extract ((ji42) : Int).toNat t251.size).toList != ((strOfNums t238) ++ (strOfNums y248)).toList)), (by first | rfl | (simp; done) | (simp only [← hji42] <;> (first | rfl | simp)) | (simp [*]; done)), H', ⟨by have := HJ3.out; have := HJ9.out; have := HK3.out; first | omega | exact Nat.le_refl _⟩, ⟨by (with_reducible repeat (first | apply Kd.R_alloc | apply Kd.R_drewN | apply Kd.R_drew)); exact Kd.R_mono HO_8.out (fun _ hk => trivial)⟩, ⟨by repeat (first | (with_reducible first | exact HB.out | apply below_alloc | apply pw_below_drewN | apply below_drew1) | exact HB.out)⟩⟩
              ·rw [if_neg c44] at H
               exact absurd H (by simp)
             ·rw [if_neg c43] at H
              exact absurd H (by simp)
            ·rw [if_neg c41] at H
             have c41b0 : ((t251.size : Int) == 14) = false := beq_eq_false_iff_ne.mpr c41
             have c41b1 : ((t251.size : Int) != 14) = true := bne_iff_ne.mpr c41
             have H' := Aside0.mk H
             clear H
             go_wp2
             go_meet
             case rel => exact ⟨_, (true), (by first | rfl | (simp; done) | (simp [*]; done)), H', ⟨by have := HJ3.out; have := HJ9.out; have := HK3.out; first | omega | exact Nat.le_refl _⟩, ⟨by (with_reducible repeat (first | apply Kd.R_alloc | apply Kd.R_drewN | apply Kd.R_drew)); exact Kd.R_mono HO_8.out (fun _ hk => trivial)⟩, ⟨by repeat (first | (with_reducible first | exact HB.out | apply below_alloc | apply pw_below_drewN | apply below_drew1) | exact HB.out)⟩⟩
           ·rw [if_neg c40] at H
            have c40b0 : (t252 == 0) = false := beq_eq_false_iff_ne.mpr c40
            have c40b1 : (t252 != 0) = true := bne_iff_ne.mpr c40
            (first | rw [c40b0] | (simp only [i64_w, i32_w]; rw [c40b0]) | skip)
            have H' := Aside0.mk H
            clear H
            go_wp2
            go_meet
            case rel => exact ⟨_, (true), (by first | rfl | (simp; done) | (simp [*]; done)), H', ⟨by have := HJ3.out; have := HJ9.out; have := HK3.out; first | omega | exact Nat.le_refl _⟩, ⟨by (with_reducible repeat (first | apply Kd.R_alloc | apply Kd.R_drewN | apply Kd.R_drew)); exact Kd.R_mono HO_8.out (fun _ hk => trivial)⟩, ⟨by repeat (first | (with_reducible first | exact HB.out | apply below_alloc | apply pw_below_drewN | apply below_drew1) | exact HB.out)⟩⟩
          case rest =>
           clear HC34
           try clear c1
           try clear hcv1
           try clear c2
           try clear p2
           try clear hcv2
           try clear c3
           try clear hcv3
           try clear c4
           try clear c5
           try clear c5b0
           try clear c5b1
           try clear c6
           try clear c6b0
           try clear c6b1
           try clear p6
           try clear c7
           try clear c7b0
           try clear c7b1
           try clear hcv12
           try clear c13
           try clear c14
           try clear c14b0
           try clear c14b1
           try clear c15
           try clear c15b0
           try clear c16
           try clear c17
           try clear c17b0
           try clear c18
           try clear c18b0
           try clear c18b1
           try clear c18b2
           try clear hcv21
           try clear hcv24
           try clear c26
           try clear c26b0
           try clear c26b1
           try clear c27
           try clear c27b0
           try clear c27b1
           try clear c28
           try clear c29
           try clear c29b0
           try clear c29b1
           try clear c30
           try clear c30b0
           try clear c30b1
           try clear c31
           try clear c31b0
           try clear c31b1
           try clear c32
           try clear c32b0
           try clear c32b1
           try clear c32b2
           try clear hcv35
           try clear hcv38
           try clear c40
           try clear c40b0
           try clear c40b1
           try clear c41
           try clear c41b0
           try clear c41b1
           try clear c43
           try clear c43b0
           try clear c43b1
           try clear c44
           try clear c44b0
           try clear c44b1
           try clear p2
           try clear p6
           obtain ⟨kq, x116_33, rfl, HA, HJ33, HO_8, HB⟩ := hcut
           cases kq with
           | zero => exact absurd HA.out (by simp [barrowlaw02_GoodsCheckDigit.j4])
           | succ kj33 =>
            have H := HA.out
            clear HA
            simp only [barrowlaw02_GoodsCheckDigit.j4] at H
            by_cases c45 : x116_33 = true
            ·subst c45
             have H1 : (some false) = some r := by rw [if_pos rfl] at H; exact H
             clear H
             have H := H1
             clear H1
             obtain rfl := Option.some.inj H
             go_wp2
             go_ret
             exact ⟨by first | rfl | (simp [errW_none, errW_some] <;> rfl) | (simp [*, errW_none, errW_some] <;> rfl), by repeat (first | (with_reducible first | exact HB.out | apply below_alloc | apply pw_below_drewN | apply below_drew1) | exact HB.out)⟩
            ·replace c45 := Bool.eq_false_iff.mpr c45
             subst c45
             have H1 : ((goods_Gtin.f kj33 t251).bind fun bt253 => (if bt253.1 = 14 then (if bt253.2 = 0 then (if (IntKind.u64.wrap (x7_3)) = 0 then (none) else (if 0 ≤ (wrap64 (Int.tmod a2 (IntKind.u64.wrap (x7_3)))) then (if (wrap64 (Int.tmod a2 (IntKind.u64.wrap (x7_3)))) < (t238.length : Int) then ((some (t238.set ((wrap64 (Int.tmod a2 (IntKind.u64.wrap (x7_3)))) : Int).toNat ((wrap64 (48 + (Int.tmod (wrap64 ((((rd t238 (wrap64 (Int.tmod a2 (IntKind.u64.wrap (x7_3))))) - 48) % 256) + (wrap64 (1 + (wrap64 (Int.tmod (IntKind.u64.wrap (Int.tdiv a2 (IntKind.u64.wrap (x7_3)))) 9)))))) 10))) % 256) : List Int)).bind fun y256 => ((some (([(wrap64 (48 + t241)) % 256] : List Int) : List Int)).bind fun y257 => (if (strOfNums y256).size + (strOfNums y257).size ≤ 9223372036854775807 then ((goods_Gtin.f kj33 ((strOfNums y256) ++ (strOfNums y257))).bind fun bt260 => (if bt260.1 = 0 then (some (bt260.2 == 23)) else (some false))) else (none)))) else (none)) else (none))) else (some false)) else (some false))) = some r := by rw [if_neg (show ¬ (false = true) by decide)] at H; exact H
             clear H
             have H := H1
             clear H1
             replace H := Option.bind_eq_some_iff.mp H
             obtain ⟨⟨t253, t254⟩, A460, H⟩ := H
             replace H : (if t253 = 14 then (if t254 = 0 then (if (IntKind.u64.wrap (x7_3)) = 0 then (none) else (if 0 ≤ (wrap64 (Int.tmod a2 (IntKind.u64.wrap (x7_3)))) then (if (wrap64 (Int.tmod a2 (IntKind.u64.wrap (x7_3)))) < (t238.length : Int) then ((some (t238.set ((wrap64 (Int.tmod a2 (IntKind.u64.wrap (x7_3)))) : Int).toNat ((wrap64 (48 + (Int.tmod (wrap64 ((((rd t238 (wrap64 (Int.tmod a2 (IntKind.u64.wrap (x7_3))))) - 48) % 256) + (wrap64 (1 + (wrap64 (Int.tmod (IntKind.u64.wrap (Int.tdiv a2 (IntKind.u64.wrap (x7_3)))) 9)))))) 10))) % 256) : List Int)).bind fun y256 => ((some (([(wrap64 (48 + t241)) % 256] : List Int) : List Int)).bind fun y257 => (if (strOfNums y256).size + (strOfNums y257).size ≤ 9223372036854775807 then ((goods_Gtin.f kj33 ((strOfNums y256) ++ (strOfNums y257))).bind fun bt260 => (if bt260.1 = 0 then (some (bt260.2 == 23)) else (some false))) else (none)))) else (none)) else (none))) else (some false)) else (some false)) = some r := H
             have A46 := Aside0.mk A460
             clear A460
             by_cases c47 : t253 = 14
             ·rw [if_pos c47] at H
              have c47b0 : (t253 == 14) = true := beq_iff_eq.mpr c47
              have c47b1 : (t253 != 14) = false := bne_eq_false_iff_eq.mpr c47
              clear c47
              by_cases c48 : t254 = 0
              ·rw [if_pos c48] at H
               have c48b0 : (t254 == 0) = true := beq_iff_eq.mpr c48
               have c48b1 : (t254 != 0) = false := bne_eq_false_iff_eq.mpr c48
               clear c48
               by_cases c49 : (IntKind.u64.wrap (x7_3)) = 0
               ·rw [if_pos c49] at H
                exact absurd H (by simp)
               ·rw [if_neg c49] at H
                have c49b0 : ((IntKind.u64.wrap (x7_3)) == 0) = false := beq_eq_false_iff_ne.mpr c49
                have c49b1 : ((IntKind.u64.wrap (x7_3)) != 0) = true := bne_iff_ne.mpr c49
                obtain ⟨ji50, hji50⟩ : ∃ j_ : Int, (wrap64 (Int.tmod a2 (IntKind.u64.wrap (x7_3)))) = j_ := ⟨_, rfl⟩
                replace H : (if 0 ≤ (ji50) then (if (ji50) < (t238.length : Int) then ((some (t238.set ((ji50) : Int).toNat ((wrap64 (48 + (Int.tmod (wrap64 ((((rd t238 (ji50)) - 48) % 256) + (wrap64 (1 + (wrap64 (Int.tmod (IntKind.u64.wrap (Int.tdiv a2 (IntKind.u64.wrap (x7_3)))) 9)))))) 10))) % 256) : List Int)).bind fun y256 => ((some (([(wrap64 (48 + t241)) % 256] : List Int) : List Int)).bind fun y257 => (if (strOfNums y256).size + (strOfNums y257).size ≤ 9223372036854775807 then ((goods_Gtin.f kj33 ((strOfNums y256) ++ (strOfNums y257))).bind fun bt260 => (if bt260.1 = 0 then (some (bt260.2 == 23)) else (some false))) else (none)))) else (none)) else (none)) = some r := by first | (rw [hji50] at H; exact H) | (simp only [hji50] at H ⊢; exact H)
                (try rw [hji50] at A46)
                have hji50w : (IntKind.i64.wrap (Int.tmod a2 (IntKind.u64.wrap (x7_3)))) = ji50 := (i64_w _).trans hji50
                by_cases c51 : 0 ≤ (ji50)
                ·rw [if_pos c51] at H
                 have c51b0 : decide (0 ≤ (ji50)) = true := decide_eq_true c51
                 clear c51
                 by_cases c52 : (ji50) < (t238.length : Int)
                 ·rw [if_pos c52] at H
                  have c52b0 : decide ((ji50) < (t238.length : Int)) = true := decide_eq_true c52
                  clear c52
                  obtain ⟨y256, hy256⟩ : ∃ y_ : List Int, y_ = (t238.set ((ji50) : Int).toNat ((wrap64 (48 + (Int.tmod (wrap64 ((((rd t238 (ji50)) - 48) % 256) + (wrap64 (1 + (wrap64 (Int.tmod (IntKind.u64.wrap (Int.tdiv a2 (IntKind.u64.wrap (x7_3)))) 9)))))) 10))) % 256)) := ⟨_, rfl⟩
                  replace H : ((some (([(wrap64 (48 + t241)) % 256] : List Int) : List Int)).bind fun y257 => (if (strOfNums y256).size + (strOfNums y257).size ≤ 9223372036854775807 then ((goods_Gtin.f kj33 ((strOfNums y256) ++ (strOfNums y257))).bind fun bt260 => (if bt260.1 = 0 then (some (bt260.2 == 23)) else (some false))) else (none))) = some r := by first | (rw [hy256]; with_reducible exact H) | (have H2_ := (Option.bind_some _ _).symm.trans H; rw [hy256]; with_reducible exact H2_) | (have H2_ := (Option.bind_some _ _).symm.trans H; with_reducible exact H2_) | with_reducible exact H | (rw [hy256]; exact H) | exact H
                  have Ny256 := Aside0.mk hy256
                  clear hy256
                  obtain ⟨y257, hy257⟩ : ∃ y_ : List Int, y_ = (([(wrap64 (48 + t241)) % 256] : List Int)) := ⟨_, rfl⟩
                  replace H : (if (strOfNums y256).size + (strOfNums y257).size ≤ 9223372036854775807 then ((goods_Gtin.f kj33 ((strOfNums y256) ++ (strOfNums y257))).bind fun bt260 => (if bt260.1 = 0 then (some (bt260.2 == 23)) else (some false))) else (none)) = some r := by first | (rw [hy257]; with_reducible exact H) | (have H2_ := (Option.bind_some _ _).symm.trans H; rw [hy257]; with_reducible exact H2_) | (have H2_ := (Option.bind_some _ _).symm.trans H; with_reducible exact H2_) | with_reducible exact H | (rw [hy257]; exact H) | exact H
                  have Ny257 := Aside0.mk hy257
                  clear hy257
                  by_cases c54 : (strOfNums y256).size + (strOfNums y257).size ≤ 9223372036854775807
                  ·rw [if_pos c54] at H
                   have c54b0 := eq_true c54
                   have c54b1 : decide ((strOfNums y256).size + (strOfNums y257).size ≤ 9223372036854775807) = true := decide_eq_true c54
                   try have c54b2 : (9223372036854775807 < (strOfNums y256).size + (strOfNums y257).size) = False := eq_false (Nat.not_lt.2 c54)
                   try clear c54
                   replace H := Option.bind_eq_some_iff.mp H
                   obtain ⟨⟨t260, t261⟩, A550, H⟩ := H
                   replace H : (if t260 = 0 then (some (t261 == 23)) else (some false)) = some r := H
                   have A55 := Aside0.mk A550
                   clear A550
                   by_cases c56 : t260 = 0
                   ·rw [if_pos c56] at H
                    have c56b0 : (t260 == 0) = true := beq_iff_eq.mpr c56
                    have c56b1 : (t260 != 0) = false := bne_eq_false_iff_eq.mpr c56
                    clear c56
                    obtain rfl := Option.some.inj H
                    go_wp2_with (first | ((with_reducible refine gate_callee (f := 15) rfl ?_); refine goesL_ (some 119) rfl rfl Try.func15 (by kernel_rfl) rfl #[.string t251] rfl (by (try simp only [List.map_toArray, List.map_cons, List.map_nil]); first | done | rfl | (simp only [List.length_drop, List.length_take]; rfl)) ?_; (with_reducible refine (goods_Gtin.calls kj33 t251 t253 t254 _ A46.out).mono ?_); rintro e w57 ⟨rfl, hb⟩; refine ⟨_, rfl, ?_⟩; have n0_ := Aside0.mk (Kd.R_below (by (with_reducible repeat (first | apply Kd.R_alloc | apply Kd.R_drewN | apply Kd.R_drew)); exact HO_8.out) hb); have n1_ := Aside0.mk (below_step (by repeat (first | (with_reducible first | exact HB.out | apply below_alloc | apply pw_below_drewN | apply below_drew1) | exact HB.out)) hb); clear HO_8; clear HB; have HO_8 := n0_; have HB := n1_; clear n0_ n1_; (try clear hb); (try clear hb2); (try clear hk); (try clear hi); obtain ⟨Ao58, co58, eo58⟩ := Kd.R_slice HO_8.out; subst eo58; have p255 : 0 ≤ ((ji50) : Int) := of_decide_eq_true (by first | (with_reducible assumption) | assumption); have q255 : (ji50) < (t238.length : Int) := of_decide_eq_true (by first | (with_reducible assumption) | assumption); obtain ⟨ad255, e255, hx255_0⟩ := Kd.at_int (Kd.R_reads' HO_8.out).2.2 (ji50) p255 q255; cases e255; replace p255 := eq_true p255; replace q255 := eq_true q255; have p53 : 0 ≤ ((ji50) : Int) := of_decide_eq_true (by first | (with_reducible assumption) | assumption); have q53 : ((ji50) : Int) < ((t238.length : Int) : Int) := of_decide_eq_true (by first | (with_reducible assumption) | assumption); obtain ⟨go53, co53, eo53, gb53, gl53, cl53, HG53⟩ := Kd.R_form HO_8.out (by omega); (first | cases eo53 | (injection eo53 with ea_ en_ ec_; (first | subst ea_ | (injection ea_ with ea_; subst ea_)); subst ec_; clear en_)); have GB53 := Aside0.mk gb53; have GG53 := Aside0.mk HG53; clear gb53 gl53 HG53; (first | simp only [add_plain] at hx255_0 | skip); obtain ⟨hx53_0, hf53_0⟩ := Kd.R_celln 0 HO_8.out ((ji50) : Int) p53 q53; replace p53 := eq_true p53; replace q53 := eq_true q53; obtain ⟨hy59_, hz59_⟩ := Kd.R_celln 0 HO_8.out ((ji50) : Int) (of_decide_eq_true (by first | (with_reducible assumption) | assumption)) (of_decide_eq_true (by first | (with_reducible assumption) | assumption)); have HP59 := Kd.R_putg HO_8.out ((ji50) : Int) ((wrap64 (48 + (Int.tmod (wrap64 ((((rd t238 (ji50)) - 48) % 256) + (wrap64 (1 + (wrap64 (Int.tmod (IntKind.u64.wrap (Int.tdiv a2 (IntKind.u64.wrap (x7_3)))) 9)))))) 10))) % 256)) | ((with_reducible refine gate_store (t := 5) (p := 153) rfl ?_); refine store_event (t := 5) (p := 153) (v := ?vo_w60) (w1 := (w57.setCell ⟨go53, ((ji50) : Int).toNat, none⟩ (.int .u8 ((wrap64 (48 + (Int.tmod (wrap64 ((((rd t238 (ji50)) - 48) % 256) + (wrap64 (1 + (wrap64 (Int.tmod (IntKind.u64.wrap (Int.tdiv a2 (IntKind.u64.wrap (x7_3)))) 9)))))) 10))) % 256)))) ?hg ?ho ?hn ?hr ?_; (case ho => rfl); (case hg => rfl); (case hn => rfl); (case hr => first | (go_simp; done) | (go_simp; rfl)); intro w60 hw; have hg : w57.grownBy w60 (some go53) := (by rw [hw]; exact HP59.2); have hp_ : Kd.R (Kd.int .u8) 5 w60 w.heap.size (fun _ => True) (.slice (some ⟨go53, 0, none⟩) t238.length co58) y256 := (by rw [hw, Ny256.out]; exact HP59.1); clear HP59; have n0_ := Aside0.mk (hp_); have n1_ := Aside0.mk ((by rw [hw]; exact below_set (HB.out) GB53.out : Below w.heap.size w w60)); clear HO_8; clear HB; have HO_8 := n0_; have HB := n1_; clear n0_ n1_; clear hg hw hp_; have hcv61 := own_string (P := Try.prog) Try.underlying34 Try.underlying5 Try.underlying9 (Kd.own_of_R HO_8.out)) | ((with_reducible refine gate_dst (N := 160) rfl ?_); (try (refine gate_guard (by rfl) ?_; dsimp only)); refine Kd.R_lit (Kd.int .u8) _ 5 ?hg (N := 160) ?hd (xs := ([(wrap64 (48 + t241)) % 256] : List Int)) (inner := [.int .u8 ((wrap64 (48 + t241)) % 256)]) (ok := fun _ => True) (okp := fun _ => True) ?hr ?hp (fun _ hk => hk) trivial (Below.refl _ _) (Nat.le_refl _) (by simp) ?_; (case hd => rfl); (case hg => rfl); (case hr => first | (go_simp; done) | (go_simp; rfl)); (case hp => exact (Reps.one (show Kd.M (Kd.int .u8) _ _ _ ((wrap64 (48 + t241)) % 256) [.int .u8 ((wrap64 (48 + t241)) % 256)] from rfl) (Reps.none _ _))); intro v258 w62 ho63 hb hg_ hnew_; clear hg_ hnew_; (first | rw [← Ny257.out] at ho63 | (simp only [Int.reduceToNat] at ho63; rw [← Ny257.out] at ho63)); have n0_ := Aside0.mk (Kd.R_elder' (by (with_reducible repeat (first | apply Kd.R_alloc | apply Kd.R_drewN | apply Kd.R_drew)); exact HO_8.out) (Kd.R_base ho63) hb); have n1_ := Aside0.mk (Kd.R_lower (Kd.R_new' ho63 (Kd.R_lt (by (with_reducible repeat (first | apply Kd.R_alloc | apply Kd.R_drewN | apply Kd.R_drew)); exact HO_8.out))) (below_size (by repeat (first | (with_reducible first | exact HB.out | apply below_alloc | apply pw_below_drewN | apply below_drew1) | exact HB.out)))); have n2_ := Aside0.mk (below_step (by repeat (first | (with_reducible first | exact HB.out | apply below_alloc | apply pw_below_drewN | apply below_drew1) | exact HB.out)) hb); clear HO_8; clear HB; have HO_8 := n0_; have HO259 := n1_; have HB := n2_; clear n0_ n1_ n2_; clear hb ho63; have hcv64 := own_string (P := Try.prog) Try.underlying34 Try.underlying5 Try.underlying9 (Kd.own_of_R HO259.out)) | ((with_reducible refine gate_callee (f := 15) rfl ?_); refine goesL_ (some 163) rfl rfl Try.func15 (by kernel_rfl) rfl #[.string ((strOfNums y256) ++ (strOfNums y257))] rfl (by (try simp only [List.map_toArray, List.map_cons, List.map_nil]); first | done | rfl | (simp only [List.length_drop, List.length_take]; rfl)) ?_; (with_reducible refine (goods_Gtin.calls kj33 ((strOfNums y256) ++ (strOfNums y257)) t260 t261 _ A55.out).mono ?_); rintro e w65 ⟨rfl, hb⟩; refine ⟨_, rfl, ?_⟩; have n0_ := Aside0.mk (Kd.R_below (by (with_reducible repeat (first | apply Kd.R_alloc | apply Kd.R_drewN | apply Kd.R_drew)); exact HO_8.out) hb); have n1_ := Aside0.mk (Kd.R_below (by (with_reducible repeat (first | apply Kd.R_alloc | apply Kd.R_drewN | apply Kd.R_drew)); exact HO259.out) hb); have n2_ := Aside0.mk (below_step (by repeat (first | (with_reducible first | exact HB.out | apply below_alloc | apply pw_below_drewN | apply below_drew1) | exact HB.out)) hb); clear HO_8; clear HO259; clear HB; have HO_8 := n0_; have HO259 := n1_; have HB := n2_; clear n0_ n1_ n2_; (try clear hb); (try clear hb2); (try clear hk); (try clear hi)))
                    go_ret
                    exact ⟨by first | rfl | (simp [errW_none, errW_some] <;> rfl) | (simp only [← hji50]; first | rfl | (simp [errW_none, errW_some] <;> rfl)) | (simp [*, errW_none, errW_some] <;> rfl), by repeat (first | (with_reducible first | exact HB.out | apply below_alloc | apply pw_below_drewN | apply below_drew1) | exact HB.out)⟩
                   ·rw [if_neg c56] at H
                    have c56b0 : (t260 == 0) = false := beq_eq_false_iff_ne.mpr c56
                    have c56b1 : (t260 != 0) = true := bne_iff_ne.mpr c56
                    obtain rfl := Option.some.inj H
                    go_wp2_with (first | ((with_reducible refine gate_callee (f := 15) rfl ?_); refine goesL_ (some 119) rfl rfl Try.func15 (by kernel_rfl) rfl #[.string t251] rfl (by (try simp only [List.map_toArray, List.map_cons, List.map_nil]); first | done | rfl | (simp only [List.length_drop, List.length_take]; rfl)) ?_; (with_reducible refine (goods_Gtin.calls kj33 t251 t253 t254 _ A46.out).mono ?_); rintro e w66 ⟨rfl, hb⟩; refine ⟨_, rfl, ?_⟩; have n0_ := Aside0.mk (Kd.R_below (by (with_reducible repeat (first | apply Kd.R_alloc | apply Kd.R_drewN | apply Kd.R_drew)); exact HO_8.out) hb); have n1_ := Aside0.mk (below_step (by repeat (first | (with_reducible first | exact HB.out | apply below_alloc | apply pw_below_drewN | apply below_drew1) | exact HB.out)) hb); clear HO_8; clear HB; have HO_8 := n0_; have HB := n1_; clear n0_ n1_; (try clear hb); (try clear hb2); (try clear hk); (try clear hi); obtain ⟨Ao67, co67, eo67⟩ := Kd.R_slice HO_8.out; subst eo67; have p255 : 0 ≤ ((ji50) : Int) := of_decide_eq_true (by first | (with_reducible assumption) | assumption); have q255 : (ji50) < (t238.length : Int) := of_decide_eq_true (by first | (with_reducible assumption) | assumption); obtain ⟨ad255, e255, hx255_0⟩ := Kd.at_int (Kd.R_reads' HO_8.out).2.2 (ji50) p255 q255; cases e255; replace p255 := eq_true p255; replace q255 := eq_true q255; have p53 : 0 ≤ ((ji50) : Int) := of_decide_eq_true (by first | (with_reducible assumption) | assumption); have q53 : ((ji50) : Int) < ((t238.length : Int) : Int) := of_decide_eq_true (by first | (with_reducible assumption) | assumption); obtain ⟨go53, co53, eo53, gb53, gl53, cl53, HG53⟩ := Kd.R_form HO_8.out (by omega); (first | cases eo53 | (injection eo53 with ea_ en_ ec_; (first | subst ea_ | (injection ea_ with ea_; subst ea_)); subst ec_; clear en_)); have GB53 := Aside0.mk gb53; have GG53 := Aside0.mk HG53; clear gb53 gl53 HG53; (first | simp only [add_plain] at hx255_0 | skip); obtain ⟨hx53_0, hf53_0⟩ := Kd.R_celln 0 HO_8.out ((ji50) : Int) p53 q53; replace p53 := eq_true p53; replace q53 := eq_true q53; obtain ⟨hy68_, hz68_⟩ := Kd.R_celln 0 HO_8.out ((ji50) : Int) (of_decide_eq_true (by first | (with_reducible assumption) | assumption)) (of_decide_eq_true (by first | (with_reducible assumption) | assumption)); have HP68 := Kd.R_putg HO_8.out ((ji50) : Int) ((wrap64 (48 + (Int.tmod (wrap64 ((((rd t238 (ji50)) - 48) % 256) + (wrap64 (1 + (wrap64 (Int.tmod (IntKind.u64.wrap (Int.tdiv a2 (IntKind.u64.wrap (x7_3)))) 9)))))) 10))) % 256)) | ((with_reducible refine gate_store (t := 5) (p := 153) rfl ?_); refine store_event (t := 5) (p := 153) (v := ?vo_w69) (w1 := (w66.setCell ⟨go53, ((ji50) : Int).toNat, none⟩ (.int .u8 ((wrap64 (48 + (Int.tmod (wrap64 ((((rd t238 (ji50)) - 48) % 256) + (wrap64 (1 + (wrap64 (Int.tmod (IntKind.u64.wrap (Int.tdiv a2 (IntKind.u64.wrap (x7_3)))) 9)))))) 10))) % 256)))) ?hg ?ho ?hn ?hr ?_; (case ho => rfl); (case hg => rfl); (case hn => rfl); (case hr => first | (go_simp; done) | (go_simp; rfl)); intro w69 hw; have hg : w66.grownBy w69 (some go53) := (by rw [hw]; exact HP68.2); have hp_ : Kd.R (Kd.int .u8) 5 w69 w.heap.size (fun _ => True) (.slice (some ⟨go53, 0, none⟩) t238.length co67) y256 := (by rw [hw, Ny256.out]; exact HP68.1); clear HP68; have n0_ := Aside0.mk (hp_); have n1_ := Aside0.mk ((by rw [hw]; exact below_set (HB.out) GB53.out : Below w.heap.size w w69)); clear HO_8; clear HB; have HO_8 := n0_; have HB := n1_; clear n0_ n1_; clear hg hw hp_; have hcv70 := own_string (P := Try.prog) Try.underlying34 Try.underlying5 Try.underlying9 (Kd.own_of_R HO_8.out)) | ((with_reducible refine gate_dst (N := 160) rfl ?_); (try (refine gate_guard (by rfl) ?_; dsimp only)); refine Kd.R_lit (Kd.int .u8) _ 5 ?hg (N := 160) ?hd (xs := ([(wrap64 (48 + t241)) % 256] : List Int)) (inner := [.int .u8 ((wrap64 (48 + t241)) % 256)]) (ok := fun _ => True) (okp := fun _ => True) ?hr ?hp (fun _ hk => hk) trivial (Below.refl _ _) (Nat.le_refl _) (by simp) ?_; (case hd => rfl); (case hg => rfl); (case hr => first | (go_simp; done) | (go_simp; rfl)); (case hp => exact (Reps.one (show Kd.M (Kd.int .u8) _ _ _ ((wrap64 (48 + t241)) % 256) [.int .u8 ((wrap64 (48 + t241)) % 256)] from rfl) (Reps.none _ _))); intro v258 w71 ho72 hb hg_ hnew_; clear hg_ hnew_; (first | rw [← Ny257.out] at ho72 | (simp only [Int.reduceToNat] at ho72; rw [← Ny257.out] at ho72)); have n0_ := Aside0.mk (Kd.R_elder' (by (with_reducible repeat (first | apply Kd.R_alloc | apply Kd.R_drewN | apply Kd.R_drew)); exact HO_8.out) (Kd.R_base ho72) hb); have n1_ := Aside0.mk (Kd.R_lower (Kd.R_new' ho72 (Kd.R_lt (by (with_reducible repeat (first | apply Kd.R_alloc | apply Kd.R_drewN | apply Kd.R_drew)); exact HO_8.out))) (below_size (by repeat (first | (with_reducible first | exact HB.out | apply below_alloc | apply pw_below_drewN | apply below_drew1) | exact HB.out)))); have n2_ := Aside0.mk (below_step (by repeat (first | (with_reducible first | exact HB.out | apply below_alloc | apply pw_below_drewN | apply below_drew1) | exact HB.out)) hb); clear HO_8; clear HB; have HO_8 := n0_; have HO259 := n1_; have HB := n2_; clear n0_ n1_ n2_; clear hb ho72; have hcv73 := own_string (P := Try.prog) Try.underlying34 Try.underlying5 Try.underlying9 (Kd.own_of_R HO259.out)) | ((with_reducible refine gate_callee (f := 15) rfl ?_); refine goesL_ (some 163) rfl rfl Try.func15 (by kernel_rfl) rfl #[.string ((strOfNums y256) ++ (strOfNums y257))] rfl (by (try simp only [List.map_toArray, List.map_cons, List.map_nil]); first | done | rfl | (simp only [List.length_drop, List.length_take]; rfl)) ?_; (with_reducible refine (goods_Gtin.calls kj33 ((strOfNums y256) ++ (strOfNums y257)) t260 t261 _ A55.out).mono ?_); rintro e w74 ⟨rfl, hb⟩; refine ⟨_, rfl, ?_⟩; have n0_ := Aside0.mk (Kd.R_below (by (with_reducible repeat (first | apply Kd.R_alloc | apply Kd.R_drewN | apply Kd.R_drew)); exact HO_8.out) hb); have n1_ := Aside0.mk (Kd.R_below (by (with_reducible repeat (first | apply Kd.R_alloc | apply Kd.R_drewN | apply Kd.R_drew)); exact HO259.out) hb); have n2_ := Aside0.mk (below_step (by repeat (first | (with_reducible first | exact HB.out | apply below_alloc | apply pw_below_drewN | apply below_drew1) | exact HB.out)) hb); clear HO_8; clear HO259; clear HB; have HO_8 := n0_; have HO259 := n1_; have HB := n2_; clear n0_ n1_ n2_; (try clear hb); (try clear hb2); (try clear hk); (try clear hi)))
                    go_ret
                    exact ⟨by first | rfl | (simp [errW_none, errW_some] <;> rfl) | (simp only [← hji50]; first | rfl | (simp [errW_none, errW_some] <;> rfl)) | (simp [*, errW_none, errW_some] <;> rfl), by repeat (first | (with_reducible first | exact HB.out | apply below_alloc | apply pw_below_drewN | apply below_drew1) | exact HB.out)⟩
                  ·rw [if_neg c54] at H
                   exact absurd H (by simp)
                 ·rw [if_neg c52] at H
                  exact absurd H (by simp)
                ·rw [if_neg c51] at H
                 exact absurd H (by simp)
              ·rw [if_neg c48] at H
               have c48b0 : (t254 == 0) = false := beq_eq_false_iff_ne.mpr c48
               have c48b1 : (t254 != 0) = true := bne_iff_ne.mpr c48
               obtain rfl := Option.some.inj H
               go_wp2_with (first | ((with_reducible refine gate_callee (f := 15) rfl ?_); refine goesL_ (some 119) rfl rfl Try.func15 (by kernel_rfl) rfl #[.string t251] rfl (by (try simp only [List.map_toArray, List.map_cons, List.map_nil]); first | done | rfl | (simp only [List.length_drop, List.length_take]; rfl)) ?_; (with_reducible refine (goods_Gtin.calls kj33 t251 t253 t254 _ A46.out).mono ?_); rintro e w75 ⟨rfl, hb⟩; refine ⟨_, rfl, ?_⟩; have n0_ := Aside0.mk (Kd.R_below (by (with_reducible repeat (first | apply Kd.R_alloc | apply Kd.R_drewN | apply Kd.R_drew)); exact HO_8.out) hb); have n1_ := Aside0.mk (below_step (by repeat (first | (with_reducible first | exact HB.out | apply below_alloc | apply pw_below_drewN | apply below_drew1) | exact HB.out)) hb); clear HO_8; clear HB; have HO_8 := n0_; have HB := n1_; clear n0_ n1_; (try clear hb); (try clear hb2); (try clear hk); (try clear hi)))
               go_ret
               exact ⟨by first | rfl | (simp [errW_none, errW_some] <;> rfl) | (simp [*, errW_none, errW_some] <;> rfl), by repeat (first | (with_reducible first | exact HB.out | apply below_alloc | apply pw_below_drewN | apply below_drew1) | exact HB.out)⟩
             ·rw [if_neg c47] at H
              have c47b0 : (t253 == 14) = false := beq_eq_false_iff_ne.mpr c47
              have c47b1 : (t253 != 14) = true := bne_iff_ne.mpr c47
              obtain rfl := Option.some.inj H
              go_wp2_with (first | ((with_reducible refine gate_callee (f := 15) rfl ?_); refine goesL_ (some 119) rfl rfl Try.func15 (by kernel_rfl) rfl #[.string t251] rfl (by (try simp only [List.map_toArray, List.map_cons, List.map_nil]); first | done | rfl | (simp only [List.length_drop, List.length_take]; rfl)) ?_; (with_reducible refine (goods_Gtin.calls kj33 t251 t253 t254 _ A46.out).mono ?_); rintro e w76 ⟨rfl, hb⟩; refine ⟨_, rfl, ?_⟩; have n0_ := Aside0.mk (Kd.R_below (by (with_reducible repeat (first | apply Kd.R_alloc | apply Kd.R_drewN | apply Kd.R_drew)); exact HO_8.out) hb); have n1_ := Aside0.mk (below_step (by repeat (first | (with_reducible first | exact HB.out | apply below_alloc | apply pw_below_drewN | apply below_drew1) | exact HB.out)) hb); clear HO_8; clear HB; have HO_8 := n0_; have HB := n1_; clear n0_ n1_; (try clear hb); (try clear hb2); (try clear hk); (try clear hi)))
              go_ret
              exact ⟨by first | rfl | (simp [errW_none, errW_some] <;> rfl) | (simp [*, errW_none, errW_some] <;> rfl), by repeat (first | (with_reducible first | exact HB.out | apply below_alloc | apply pw_below_drewN | apply below_drew1) | exact HB.out)⟩
         ·rw [if_neg c32] at H
          exact absurd H (by simp)

/-- THE ONE PURE STATEMENT of barrowlaw02_GoodsCheckDigit: yours. -/
def barrowlaw02_GoodsCheckDigit.Pure : Prop := ∀ (a0 : Int) (a1 : Int) (a2 : Int), (Lit.int .u64 a0).wf = true → (Lit.int .i64 a1).wf = true → (Lit.int .u64 a2).wf = true → ∃ k, barrowlaw02_GoodsCheckDigit.f k a0 a1 a2 = some true
theorem barrowlaw02_GoodsCheckDigit.walk (P : barrowlaw02_GoodsCheckDigit.Pure) (a0 : Int) (a1 : Int) (a2 : Int) (w : World) (w0 : (Lit.int .u64 a0).wf = true) (w1 : (Lit.int .i64 a1).wf = true) (w2 : (Lit.int .u64 a2).wf = true) :
  Calls Try.prog 6 #[.int .u64 a0, .int .i64 a1, .int .u64 a2] w fun e w' => e = .returned (.bool true) ∧ Below w.heap.size w w' := by
 obtain ⟨k, h⟩ := P a0 a1 a2 w0 w1 w2
 refine (barrowlaw02_GoodsCheckDigit.calls k a0 a1 a2 true w h).mono ?_
 rintro e w' ⟨rfl, hd⟩
 exact ⟨rfl, hd⟩

end Go.Proofs.Ytmicghhmbojkfaa.G
