import Derived.Test.YtmicghhmbojkfaaGreatDoorQAl6
import Derived.Test.YtmicghhmbojkfaaGreatDoorQAl10
import Derived.Test.YtmicghhmbojkfaaGreatDoorQAl18
-- PRINTED by print.py (a twelfth state) out of the translation. Not trusted: Lean checks it.
namespace Go.Proofs.YtmicghhmbojkfaaGreatDoor.G
open Go.RowKit Go.Proofs.YtmicghhmbojkfaaGreatDoorW.PrintWords Go.Proofs.YtmicghhmbojkfaaGreatDoorW.PrintLast Go.Proofs.YtmicghhmbojkfaaGreatDoorW.PrintMore
attribute [local go_sem] max2_int min2_int max_two min_two max_three min_three max_four min_four   -- for this text's walks alone
set_option linter.unusedVariables false
set_option linter.unusedSimpArgs false

/-! ### goods_Match: function 13 -/
mutual
def goods_Match.l0 : Nat → ByteArray → ByteArray → Int → Int → Option (Bool × Int)
 | 0, _, _, _, _ => none
 | k + 1, x0, x1, x16, x17 => if x17 < x16 then (if 0 ≤ x17 then (if x17 < (x0.size : Int) then ((goods_isLetter.f (bt x0 x17)).bind fun t199 => (if t199 = true then (goods_Match.l0 k x0 x1 x16 (wrap64 (x17 + 1))) else ((goods_isDigit.f (bt x0 x17)).bind fun t200 => (if t200 = true then (goods_Match.l0 k x0 x1 x16 (wrap64 (x17 + 1))) else ((goods_isMark.f (bt x0 x17)).bind fun t201 => (if t201 = true then (goods_Match.l0 k x0 x1 x16 (wrap64 (x17 + 1))) else ((strings_IndexByte.f (⟨#[42, 63, 35, 64]⟩ : ByteArray) (bt x0 x17)).bind fun t202 => (if t202 < 0 then (some (false, 22)) else (goods_Match.l0 k x0 x1 x16 (wrap64 (x17 + 1))))))))))) else (none)) else (none)) else ((goods_Good.f k x1).bind fun t203 => (if t203 = true then (if 0 ≤ (wrap64 ((x1.size : Int) + 1)) then (if (wrap64 ((x1.size : Int) + 1) : Int).toNat ≤ 281474976710656 then ((some (List.replicate (wrap64 ((x1.size : Int) + 1) : Int).toNat false : List Bool)).bind fun y204 => (if 0 < (y204.length : Int) then (goods_Match.l1 k x0 x1 (y204.set (0 : Int).toNat true) (x0.size : Int) 0) else (none))) else (none)) else (none)) else (some (false, 5))))
def goods_Match.l1 : Nat → ByteArray → ByteArray → List Bool → Int → Int → Option (Bool × Int)
 | 0, _, _, _, _, _ => none
 | k + 1, x0, x1, x8, x52, x53 => if x53 < x52 then (if 0 ≤ (wrap64 ((x1.size : Int) + 1)) then (if (wrap64 ((x1.size : Int) + 1) : Int).toNat ≤ 281474976710656 then (goods_Match.l2 k x0 x1 x8 x53 (List.replicate (wrap64 ((x1.size : Int) + 1) : Int).toNat false) x52 x53 (x8.length : Int) 0) else (none)) else (none)) else (if 0 ≤ (x1.size : Int) then (if (x1.size : Int) < (x8.length : Int) then (some (rdOf false x8 (x1.size : Int), 0)) else (none)) else (none))
def goods_Match.l2 : Nat → ByteArray → ByteArray → List Bool → Int → List Bool → Int → Int → Int → Int → Option (Bool × Int)
 | 0, _, _, _, _, _, _, _, _, _ => none
 | k + 1, x0, x1, x8, x9, x10, x52, x53, x61, x62 => if x62 < x61 then (if 0 ≤ x9 then (if x9 < (x0.size : Int) then (if (bt x0 x9) = 42 then (if 0 ≤ x62 then (if x62 < (x8.length : Int) then (if rdOf false x8 x62 = true then (if x62 < (x10.length : Int) then (goods_Match.l2 k x0 x1 x8 x9 (x10.set (x62 : Int).toNat true) x52 x53 x61 (wrap64 (x62 + 1))) else (none)) else (if x62 > 0 then (if 0 ≤ (wrap64 (x62 - 1)) then (if (wrap64 (x62 - 1)) < (x10.length : Int) then (if x62 < (x10.length : Int) then (goods_Match.l2 k x0 x1 x8 x9 (x10.set (x62 : Int).toNat (rdOf false x10 (wrap64 (x62 - 1)))) x52 x53 x61 (wrap64 (x62 + 1))) else (none)) else (none)) else (none)) else (if x62 < (x10.length : Int) then (goods_Match.l2 k x0 x1 x8 x9 (x10.set (x62 : Int).toNat false) x52 x53 x61 (wrap64 (x62 + 1))) else (none)))) else (none)) else (none)) else (if x62 > 0 then (if 0 ≤ (wrap64 (x62 - 1)) then (if (wrap64 (x62 - 1)) < (x8.length : Int) then (if rdOf false x8 (wrap64 (x62 - 1)) = true then (if (wrap64 (x62 - 1)) < (x1.size : Int) then ((goods_fits.f (bt x0 x9) (bt x1 (wrap64 (x62 - 1)))).bind fun t218 => (if 0 ≤ x62 then (if x62 < (x10.length : Int) then (goods_Match.l2 k x0 x1 x8 x9 (x10.set (x62 : Int).toNat t218) x52 x53 x61 (wrap64 (x62 + 1))) else (none)) else (none))) else (none)) else (if 0 ≤ x62 then (if x62 < (x10.length : Int) then (goods_Match.l2 k x0 x1 x8 x9 (x10.set (x62 : Int).toNat false) x52 x53 x61 (wrap64 (x62 + 1))) else (none)) else (none))) else (none)) else (none)) else (if 0 ≤ x62 then (if x62 < (x10.length : Int) then (goods_Match.l2 k x0 x1 x8 x9 (x10.set (x62 : Int).toNat false) x52 x53 x61 (wrap64 (x62 + 1))) else (none)) else (none)))) else (none)) else (none)) else (goods_Match.l1 k x0 x1 x10 x52 (wrap64 (x53 + 1)))
end
def goods_Match.f (k : Nat) (a0 : ByteArray) (a1 : ByteArray) : Option (Bool × Int) := if (a0.size : Int) > 48 then (some (false, 21)) else (goods_Match.l0 k a0 a1 (a0.size : Int) 0)
theorem goods_Match.mono_l : ∀ k, (∀ y0 y1 y2 y3, LeO (goods_Match.l0 k y0 y1 y2 y3) (goods_Match.l0 (k + 1) y0 y1 y2 y3)) ∧ (∀ y0 y1 y2 y3 y4, LeO (goods_Match.l1 k y0 y1 y2 y3 y4) (goods_Match.l1 (k + 1) y0 y1 y2 y3 y4)) ∧ (∀ y0 y1 y2 y3 y4 y5 y6 y7 y8, LeO (goods_Match.l2 k y0 y1 y2 y3 y4 y5 y6 y7 y8) (goods_Match.l2 (k + 1) y0 y1 y2 y3 y4 y5 y6 y7 y8))
 | 0 => ⟨fun _ _ _ _ r h => by simp [goods_Match.l0] at h, fun _ _ _ _ _ r h => by simp [goods_Match.l1] at h, fun _ _ _ _ _ _ _ _ _ r h => by simp [goods_Match.l2] at h⟩
 | k + 1 => by
  obtain ⟨ih0, ih1, ih2⟩ := goods_Match.mono_l k
  refine ⟨?_, ?_, ?_⟩
  ·intro y0 y1 y2 y3
   unfold goods_Match.l0
   repeat' first
   | (with_reducible exact ih0 _ _ _ _)
   | (with_reducible exact ih1 _ _ _ _ _)
   | (with_reducible exact ih2 _ _ _ _ _ _ _ _ _)
   | (with_reducible exact goods_Good.mono _ _)
   | (with_reducible exact LeO.refl _)
   | (with_reducible exact LeO.none _)
   | (with_reducible refine LeO.ite ?_ ?_)
   | (with_reducible refine LeO.bind ?_ (fun _ => ?_))
   | exact ih0 _ _ _ _
   | exact ih1 _ _ _ _ _
   | exact ih2 _ _ _ _ _ _ _ _ _
   | exact goods_Good.mono _ _
   | exact LeO.none _
   | refine LeO.ite ?_ ?_
   | refine LeO.bind ?_ (fun _ => ?_)
  ·intro y0 y1 y2 y3 y4
   unfold goods_Match.l1
   repeat' first
   | (with_reducible exact ih0 _ _ _ _)
   | (with_reducible exact ih1 _ _ _ _ _)
   | (with_reducible exact ih2 _ _ _ _ _ _ _ _ _)
   | (with_reducible exact goods_Good.mono _ _)
   | (with_reducible exact LeO.refl _)
   | (with_reducible exact LeO.none _)
   | (with_reducible refine LeO.ite ?_ ?_)
   | (with_reducible refine LeO.bind ?_ (fun _ => ?_))
   | exact ih0 _ _ _ _
   | exact ih1 _ _ _ _ _
   | exact ih2 _ _ _ _ _ _ _ _ _
   | exact goods_Good.mono _ _
   | exact LeO.none _
   | refine LeO.ite ?_ ?_
   | refine LeO.bind ?_ (fun _ => ?_)
  ·intro y0 y1 y2 y3 y4 y5 y6 y7 y8
   unfold goods_Match.l2
   repeat' first
   | (with_reducible exact ih0 _ _ _ _)
   | (with_reducible exact ih1 _ _ _ _ _)
   | (with_reducible exact ih2 _ _ _ _ _ _ _ _ _)
   | (with_reducible exact goods_Good.mono _ _)
   | (with_reducible exact LeO.refl _)
   | (with_reducible exact LeO.none _)
   | (with_reducible refine LeO.ite ?_ ?_)
   | (with_reducible refine LeO.bind ?_ (fun _ => ?_))
   | exact ih0 _ _ _ _
   | exact ih1 _ _ _ _ _
   | exact ih2 _ _ _ _ _ _ _ _ _
   | exact goods_Good.mono _ _
   | exact LeO.none _
   | refine LeO.ite ?_ ?_
   | refine LeO.bind ?_ (fun _ => ?_)
theorem goods_Match.mono : ∀ a0 a1 k, LeO (goods_Match.f k a0 a1) (goods_Match.f (k + 1) a0 a1) := by
 intro a0 a1 k
 obtain ⟨ih0, ih1, ih2⟩ := goods_Match.mono_l k
 unfold goods_Match.f
 repeat' first
   | (with_reducible exact ih0 _ _ _ _)
   | (with_reducible exact ih1 _ _ _ _ _)
   | (with_reducible exact ih2 _ _ _ _ _ _ _ _ _)
   | (with_reducible exact goods_Good.mono _ _)
   | (with_reducible exact LeO.refl _)
   | (with_reducible exact LeO.none _)
   | (with_reducible refine LeO.ite ?_ ?_)
   | (with_reducible refine LeO.bind ?_ (fun _ => ?_))
   | exact ih0 _ _ _ _
   | exact ih1 _ _ _ _ _
   | exact ih2 _ _ _ _ _ _ _ _ _
   | exact goods_Good.mono _ _
   | exact LeO.none _
   | refine LeO.ite ?_ ?_
   | refine LeO.bind ?_ (fun _ => ?_)
def goods_Match.T23 : Bool × List (List Nat × List Nat) := (true, [([], []), ([], []), ([], []), ([2], [2]), ([3], [3]), ([4], [4]), ([4], [4]), ([6, 4], [4, 6]), ([5, 7, 4], [4, 5, 7]), ([8, 4], [4, 8]), ([4, 9], [4, 9]), ([10, 4], [10]), ([11], [11]), ([11], [11]), ([12, 13, 11], [11, 12, 13]), ([11], [11]), ([11], [11]), ([16, 11], [11, 16]), ([15, 17, 11], [11, 15, 17]), ([14, 18, 11, 11], [11, 14, 18]), ([11, 19], [11, 19]), ([0, 1, 0, 1, 2, 3, 4, 5, 6, 7, 8, 9, 10, 11, 12, 13, 14, 15, 16, 17, 18, 19, 20], [0, 1]), ([21, 20, 19, 0, 1, 2, 3, 4, 5, 6, 7, 8, 9, 10, 11, 12, 13, 14, 15, 16, 17, 18, 19, 20], [20, 21])])
def goods_Match.B23 : List Nat := [0, 0, 0, 4, 12, 28, 28, 92, 252, 508, 1020, 2044, 4092, 4092, 16380, 4092, 4092, 69628, 233468, 524284, 1048572, 2097151, 4194303]
theorem goods_Match.tab23 : rtab .any (opsOf Tryz.f13 23) = goods_Match.T23 := by kernel_rfl
theorem goods_Match.bits23 : waitsOk goods_Match.T23.2 goods_Match.B23 = true := by kernel_rfl
set_option maxHeartbeats 8000000 in
set_option maxRecDepth 100000 in
theorem goods_Match.calls (k : Nat) (a0 : ByteArray) (a1 : ByteArray) (r1 : Bool) (r2 : Int) (w : World) (h : goods_Match.f k a0 a1 = some (r1, r2)) :
  Calls Tryz.prog 13 #[.string a0, .string a1] w fun e w' => e = .returned (.tuple #[.bool r1, .int .i64 r2]) ∧ Below w.heap.size w w' := by
 have HB := Aside0.mk (Below.refl w.heap.size w)
 have H : (if (a0.size : Int) > 48 then (some (false, 21)) else (goods_Match.l0 k a0 a1 (a0.size : Int) 0)) = some (r1, r2) := h
 clear h
 by_cases c3 : (a0.size : Int) > 48
 ·rw [if_pos c3] at H
  have c3b0 : decide (48 < (a0.size : Int)) = true := decide_eq_true c3
  have c3b1 : decide (48 < a0.size) = true := decide_eq_true (by omega)
  clear c3
  simp only [Option.some.injEq, Prod.mk.injEq] at H
  obtain ⟨rfl, rfl⟩ := H
  go_enter Tryz.func13, Tryz.ntmps13
  go_wp2
  go_ret2
  exact ⟨by first | rfl | (simp [errW_none, errW_some] <;> rfl) | (simp [*, errW_none, errW_some] <;> rfl), by repeat (first | (with_reducible first | exact HB.out | apply below_alloc | apply pw_below_drewN | apply below_drew1) | exact HB.out)⟩
 ·rw [if_neg c3] at H
  have c3b0 : decide (48 < (a0.size : Int)) = false := decide_eq_false c3
  have c3b1 : decide (48 < a0.size) = false := decide_eq_false (by omega)
  clear c3
  have H' := Aside0.mk H
  clear H
  go_enter Tryz.func13, Tryz.ntmps13
  go_wp2
  go_loopg [17] k (fun kq v17 w' => ∃ (x17_1 : Int), v17 = .int .i64 x17_1 ∧ Aside0 (goods_Match.l0 kq a0 a1 (a0.size : Int) x17_1 = some (r1, r2)) ∧ Aside0 (kq ≤ k) ∧ Aside0 (Below w.heap.size w w'))
  case atStart => exact ⟨(0), (by first | rfl | (simp; done) | (simp [*]; done)), H', ⟨Nat.le_refl _⟩, ⟨by repeat (first | (with_reducible first | exact HB.out | apply below_alloc | apply pw_below_drewN | apply below_drew1) | exact HB.out)⟩⟩
  case round =>
   clear H'
   try clear c1
   try clear p2
   try clear c3
   try clear c3b0
   try clear c3b1
   obtain ⟨x17_1, rfl, HA, HK1, HB⟩ := hrel
   cases gk with
   | zero => exact absurd HA.out (by simp [goods_Match.l0])
   | succ k1 =>
    have H := HA.out
    clear HA
    simp only [goods_Match.l0] at H
    by_cases c4 : x17_1 < (a0.size : Int)
    ·rw [if_pos c4] at H
     have c4b0 : decide (x17_1 < (a0.size : Int)) = true := decide_eq_true c4
     clear c4
     by_cases c5 : 0 ≤ x17_1
     ·rw [if_pos c5] at H
      have c5b0 : decide (0 ≤ x17_1) = true := decide_eq_true c5
      clear c5
      by_cases c6 : x17_1 < (a0.size : Int)
      ·rw [if_pos c6] at H
       have c6b0 : decide (x17_1 < (a0.size : Int)) = true := decide_eq_true c6
       clear c6
       replace H := Option.bind_eq_some_iff.mp H
       obtain ⟨t199, A80, H⟩ := H
       replace H : (if t199 = true then (goods_Match.l0 k1 a0 a1 (a0.size : Int) (wrap64 (x17_1 + 1))) else ((goods_isDigit.f (bt a0 x17_1)).bind fun t200 => (if t200 = true then (goods_Match.l0 k1 a0 a1 (a0.size : Int) (wrap64 (x17_1 + 1))) else ((goods_isMark.f (bt a0 x17_1)).bind fun t201 => (if t201 = true then (goods_Match.l0 k1 a0 a1 (a0.size : Int) (wrap64 (x17_1 + 1))) else ((strings_IndexByte.f (⟨#[42, 63, 35, 64]⟩ : ByteArray) (bt a0 x17_1)).bind fun t202 => (if t202 < 0 then (some (false, 22)) else (goods_Match.l0 k1 a0 a1 (a0.size : Int) (wrap64 (x17_1 + 1)))))))))) = some (r1, r2) := H
       have A8 := Aside0.mk A80
       clear A80
       by_cases c9 : t199 = true
       ·subst c9
        have H1 : (goods_Match.l0 k1 a0 a1 (a0.size : Int) (wrap64 (x17_1 + 1))) = some (r1, r2) := by rw [if_pos rfl] at H; exact H
        clear H
        have H := H1
        clear H1
        have H' := Aside0.mk H
        clear H
        have p7 : 0 ≤ (x17_1 : Int) := of_decide_eq_true (by first | (with_reducible assumption) | assumption)
        have q7 : x17_1 < (a0.size : Int) := of_decide_eq_true (by first | (with_reducible assumption) | assumption)
        have hx7 := bt_at a0 x17_1
        replace p7 := eq_true p7
        replace q7 := eq_true q7
        go_wp2_with (first | ((with_reducible refine gate_callee (f := 17) rfl ?_); refine goesL_ (some 24) rfl rfl Tryz.func17 (by kernel_rfl) rfl #[.int .u8 (bt a0 x17_1)] rfl (by (try simp only [List.map_toArray, List.map_cons, List.map_nil]); first | done | rfl | (simp only [List.length_drop, List.length_take]; rfl)) ?_; (with_reducible refine (goods_isLetter.calls (bt a0 x17_1) true _ A8.out).mono ?_); rintro e w' ⟨rfl, ⟨nd, rfl⟩⟩; refine ⟨_, rfl, ?_⟩))
        go_roundg k1
        case measure => have := HK1.out; omega
        case rel => exact ⟨(wrap64 (x17_1 + 1)), (by first | rfl | (simp; done) | (simp [*]; done)), H', ⟨by have := HK1.out; omega⟩, ⟨by repeat (first | (with_reducible first | exact HB.out | apply below_alloc | apply pw_below_drewN | apply below_drew1) | exact HB.out)⟩⟩
       ·replace c9 := Bool.eq_false_iff.mpr c9
        subst c9
        have H1 : ((goods_isDigit.f (bt a0 x17_1)).bind fun t200 => (if t200 = true then (goods_Match.l0 k1 a0 a1 (a0.size : Int) (wrap64 (x17_1 + 1))) else ((goods_isMark.f (bt a0 x17_1)).bind fun t201 => (if t201 = true then (goods_Match.l0 k1 a0 a1 (a0.size : Int) (wrap64 (x17_1 + 1))) else ((strings_IndexByte.f (⟨#[42, 63, 35, 64]⟩ : ByteArray) (bt a0 x17_1)).bind fun t202 => (if t202 < 0 then (some (false, 22)) else (goods_Match.l0 k1 a0 a1 (a0.size : Int) (wrap64 (x17_1 + 1))))))))) = some (r1, r2) := by rw [if_neg (show ¬ (false = true) by decide)] at H; exact H
        clear H
        have H := H1
        clear H1
        replace H := Option.bind_eq_some_iff.mp H
        obtain ⟨t200, A100, H⟩ := H
        replace H : (if t200 = true then (goods_Match.l0 k1 a0 a1 (a0.size : Int) (wrap64 (x17_1 + 1))) else ((goods_isMark.f (bt a0 x17_1)).bind fun t201 => (if t201 = true then (goods_Match.l0 k1 a0 a1 (a0.size : Int) (wrap64 (x17_1 + 1))) else ((strings_IndexByte.f (⟨#[42, 63, 35, 64]⟩ : ByteArray) (bt a0 x17_1)).bind fun t202 => (if t202 < 0 then (some (false, 22)) else (goods_Match.l0 k1 a0 a1 (a0.size : Int) (wrap64 (x17_1 + 1)))))))) = some (r1, r2) := H
        have A10 := Aside0.mk A100
        clear A100
        by_cases c11 : t200 = true
        ·subst c11
         have H1 : (goods_Match.l0 k1 a0 a1 (a0.size : Int) (wrap64 (x17_1 + 1))) = some (r1, r2) := by rw [if_pos rfl] at H; exact H
         clear H
         have H := H1
         clear H1
         have H' := Aside0.mk H
         clear H
         have p7 : 0 ≤ (x17_1 : Int) := of_decide_eq_true (by first | (with_reducible assumption) | assumption)
         have q7 : x17_1 < (a0.size : Int) := of_decide_eq_true (by first | (with_reducible assumption) | assumption)
         have hx7 := bt_at a0 x17_1
         replace p7 := eq_true p7
         replace q7 := eq_true q7
         go_wp2_with (first | ((with_reducible refine gate_callee (f := 17) rfl ?_); refine goesL_ (some 24) rfl rfl Tryz.func17 (by kernel_rfl) rfl #[.int .u8 (bt a0 x17_1)] rfl (by (try simp only [List.map_toArray, List.map_cons, List.map_nil]); first | done | rfl | (simp only [List.length_drop, List.length_take]; rfl)) ?_; (with_reducible refine (goods_isLetter.calls (bt a0 x17_1) false _ A8.out).mono ?_); rintro e w' ⟨rfl, ⟨nd, rfl⟩⟩; refine ⟨_, rfl, ?_⟩) | (go_at_call 18; (with_reducible refine (goods_isDigit.calls (bt a0 x17_1) true _ A10.out).mono ?_); rintro e w' ⟨rfl, ⟨nd, rfl⟩⟩))
         go_roundg k1
         case measure => have := HK1.out; omega
         case rel => exact ⟨(wrap64 (x17_1 + 1)), (by first | rfl | (simp; done) | (simp [*]; done)), H', ⟨by have := HK1.out; omega⟩, ⟨by repeat (first | (with_reducible first | exact HB.out | apply below_alloc | apply pw_below_drewN | apply below_drew1) | exact HB.out)⟩⟩
        ·replace c11 := Bool.eq_false_iff.mpr c11
         subst c11
         have H1 : ((goods_isMark.f (bt a0 x17_1)).bind fun t201 => (if t201 = true then (goods_Match.l0 k1 a0 a1 (a0.size : Int) (wrap64 (x17_1 + 1))) else ((strings_IndexByte.f (⟨#[42, 63, 35, 64]⟩ : ByteArray) (bt a0 x17_1)).bind fun t202 => (if t202 < 0 then (some (false, 22)) else (goods_Match.l0 k1 a0 a1 (a0.size : Int) (wrap64 (x17_1 + 1))))))) = some (r1, r2) := by rw [if_neg (show ¬ (false = true) by decide)] at H; exact H
         clear H
         have H := H1
         clear H1
         replace H := Option.bind_eq_some_iff.mp H
         obtain ⟨t201, A120, H⟩ := H
         replace H : (if t201 = true then (goods_Match.l0 k1 a0 a1 (a0.size : Int) (wrap64 (x17_1 + 1))) else ((strings_IndexByte.f (⟨#[42, 63, 35, 64]⟩ : ByteArray) (bt a0 x17_1)).bind fun t202 => (if t202 < 0 then (some (false, 22)) else (goods_Match.l0 k1 a0 a1 (a0.size : Int) (wrap64 (x17_1 + 1)))))) = some (r1, r2) := H
         have A12 := Aside0.mk A120
         clear A120
         by_cases c13 : t201 = true
         ·subst c13
          have H1 : (goods_Match.l0 k1 a0 a1 (a0.size : Int) (wrap64 (x17_1 + 1))) = some (r1, r2) := by rw [if_pos rfl] at H; exact H
          clear H
          have H := H1
          clear H1
          have H' := Aside0.mk H
          clear H
          have p7 : 0 ≤ (x17_1 : Int) := of_decide_eq_true (by first | (with_reducible assumption) | assumption)
          have q7 : x17_1 < (a0.size : Int) := of_decide_eq_true (by first | (with_reducible assumption) | assumption)
          have hx7 := bt_at a0 x17_1
          replace p7 := eq_true p7
          replace q7 := eq_true q7
          go_wp2_with (first | ((with_reducible refine gate_callee (f := 17) rfl ?_); refine goesL_ (some 24) rfl rfl Tryz.func17 (by kernel_rfl) rfl #[.int .u8 (bt a0 x17_1)] rfl (by (try simp only [List.map_toArray, List.map_cons, List.map_nil]); first | done | rfl | (simp only [List.length_drop, List.length_take]; rfl)) ?_; (with_reducible refine (goods_isLetter.calls (bt a0 x17_1) false _ A8.out).mono ?_); rintro e w' ⟨rfl, ⟨nd, rfl⟩⟩; refine ⟨_, rfl, ?_⟩) | (go_at_call 18; (with_reducible refine (goods_isDigit.calls (bt a0 x17_1) false _ A10.out).mono ?_); rintro e w' ⟨rfl, ⟨nd, rfl⟩⟩) | (go_at_call 19; (with_reducible refine (goods_isMark.calls (bt a0 x17_1) true _ A12.out).mono ?_); rintro e w' ⟨rfl, ⟨nd, rfl⟩⟩))
          go_roundg k1
          case measure => have := HK1.out; omega
          case rel => exact ⟨(wrap64 (x17_1 + 1)), (by first | rfl | (simp; done) | (simp [*]; done)), H', ⟨by have := HK1.out; omega⟩, ⟨by repeat (first | (with_reducible first | exact HB.out | apply below_alloc | apply pw_below_drewN | apply below_drew1) | exact HB.out)⟩⟩
         ·replace c13 := Bool.eq_false_iff.mpr c13
          subst c13
          have H1 : ((strings_IndexByte.f (⟨#[42, 63, 35, 64]⟩ : ByteArray) (bt a0 x17_1)).bind fun t202 => (if t202 < 0 then (some (false, 22)) else (goods_Match.l0 k1 a0 a1 (a0.size : Int) (wrap64 (x17_1 + 1))))) = some (r1, r2) := by rw [if_neg (show ¬ (false = true) by decide)] at H; exact H
          clear H
          have H := H1
          clear H1
          replace H := Option.bind_eq_some_iff.mp H
          obtain ⟨t202, A140, H⟩ := H
          replace H : (if t202 < 0 then (some (false, 22)) else (goods_Match.l0 k1 a0 a1 (a0.size : Int) (wrap64 (x17_1 + 1)))) = some (r1, r2) := H
          have A14 := Aside0.mk A140
          clear A140
          by_cases c15 : t202 < 0
          ·rw [if_pos c15] at H
           have c15b0 : decide (t202 < 0) = true := decide_eq_true c15
           clear c15
           simp only [Option.some.injEq, Prod.mk.injEq] at H
           obtain ⟨rfl, rfl⟩ := H
           have p7 : 0 ≤ (x17_1 : Int) := of_decide_eq_true (by first | (with_reducible assumption) | assumption)
           have q7 : x17_1 < (a0.size : Int) := of_decide_eq_true (by first | (with_reducible assumption) | assumption)
           have hx7 := bt_at a0 x17_1
           replace p7 := eq_true p7
           replace q7 := eq_true q7
           go_wp2_with (first | ((with_reducible refine gate_callee (f := 17) rfl ?_); refine goesL_ (some 24) rfl rfl Tryz.func17 (by kernel_rfl) rfl #[.int .u8 (bt a0 x17_1)] rfl (by (try simp only [List.map_toArray, List.map_cons, List.map_nil]); first | done | rfl | (simp only [List.length_drop, List.length_take]; rfl)) ?_; (with_reducible refine (goods_isLetter.calls (bt a0 x17_1) false _ A8.out).mono ?_); rintro e w' ⟨rfl, ⟨nd, rfl⟩⟩; refine ⟨_, rfl, ?_⟩) | (go_at_call 18; (with_reducible refine (goods_isDigit.calls (bt a0 x17_1) false _ A10.out).mono ?_); rintro e w' ⟨rfl, ⟨nd, rfl⟩⟩) | (go_at_call 19; (with_reducible refine (goods_isMark.calls (bt a0 x17_1) false _ A12.out).mono ?_); rintro e w' ⟨rfl, ⟨nd, rfl⟩⟩) | (go_at_call 22; (with_reducible refine (strings_IndexByte.calls (⟨#[42, 63, 35, 64]⟩ : ByteArray) (bt a0 x17_1) t202 _ A14.out).mono ?_); rintro e w' ⟨rfl, ⟨nd, rfl⟩⟩))
           go_ret2
           exact ⟨by first | rfl | (simp [errW_none, errW_some] <;> rfl) | (simp [*, errW_none, errW_some] <;> rfl), by repeat (first | (with_reducible first | exact HB.out | apply below_alloc | apply pw_below_drewN | apply below_drew1) | exact HB.out)⟩
          ·rw [if_neg c15] at H
           have c15b0 : decide (t202 < 0) = false := decide_eq_false c15
           clear c15
           have H' := Aside0.mk H
           clear H
           have p7 : 0 ≤ (x17_1 : Int) := of_decide_eq_true (by first | (with_reducible assumption) | assumption)
           have q7 : x17_1 < (a0.size : Int) := of_decide_eq_true (by first | (with_reducible assumption) | assumption)
           have hx7 := bt_at a0 x17_1
           replace p7 := eq_true p7
           replace q7 := eq_true q7
           go_wp2_with (first | ((with_reducible refine gate_callee (f := 17) rfl ?_); refine goesL_ (some 24) rfl rfl Tryz.func17 (by kernel_rfl) rfl #[.int .u8 (bt a0 x17_1)] rfl (by (try simp only [List.map_toArray, List.map_cons, List.map_nil]); first | done | rfl | (simp only [List.length_drop, List.length_take]; rfl)) ?_; (with_reducible refine (goods_isLetter.calls (bt a0 x17_1) false _ A8.out).mono ?_); rintro e w' ⟨rfl, ⟨nd, rfl⟩⟩; refine ⟨_, rfl, ?_⟩) | (go_at_call 18; (with_reducible refine (goods_isDigit.calls (bt a0 x17_1) false _ A10.out).mono ?_); rintro e w' ⟨rfl, ⟨nd, rfl⟩⟩) | (go_at_call 19; (with_reducible refine (goods_isMark.calls (bt a0 x17_1) false _ A12.out).mono ?_); rintro e w' ⟨rfl, ⟨nd, rfl⟩⟩) | (go_at_call 22; (with_reducible refine (strings_IndexByte.calls (⟨#[42, 63, 35, 64]⟩ : ByteArray) (bt a0 x17_1) t202 _ A14.out).mono ?_); rintro e w' ⟨rfl, ⟨nd, rfl⟩⟩))
           go_roundg k1
           case measure => have := HK1.out; omega
           case rel => exact ⟨(wrap64 (x17_1 + 1)), (by first | rfl | (simp; done) | (simp [*]; done)), H', ⟨by have := HK1.out; omega⟩, ⟨by repeat (first | (with_reducible first | exact HB.out | apply below_alloc | apply pw_below_drewN | apply below_drew1) | exact HB.out)⟩⟩
      ·rw [if_neg c6] at H
       exact absurd H (by simp)
     ·rw [if_neg c5] at H
      exact absurd H (by simp)
    ·rw [if_neg c4] at H
     have c4b0 : decide (x17_1 < (a0.size : Int)) = false := decide_eq_false c4
     clear c4
     replace H := Option.bind_eq_some_iff.mp H
     obtain ⟨t203, A160, H⟩ := H
     replace H : (if t203 = true then (if 0 ≤ (wrap64 ((a1.size : Int) + 1)) then (if (wrap64 ((a1.size : Int) + 1) : Int).toNat ≤ 281474976710656 then ((some (List.replicate (wrap64 ((a1.size : Int) + 1) : Int).toNat false : List Bool)).bind fun y204 => (if 0 < (y204.length : Int) then (goods_Match.l1 k1 a0 a1 (y204.set (0 : Int).toNat true) (a0.size : Int) 0) else (none))) else (none)) else (none)) else (some (false, 5))) = some (r1, r2) := H
     have A16 := Aside0.mk A160
     clear A160
     by_cases c17 : t203 = true
     ·subst c17
      have H1 : (if 0 ≤ (wrap64 ((a1.size : Int) + 1)) then (if (wrap64 ((a1.size : Int) + 1) : Int).toNat ≤ 281474976710656 then ((some (List.replicate (wrap64 ((a1.size : Int) + 1) : Int).toNat false : List Bool)).bind fun y204 => (if 0 < (y204.length : Int) then (goods_Match.l1 k1 a0 a1 (y204.set (0 : Int).toNat true) (a0.size : Int) 0) else (none))) else (none)) else (none)) = some (r1, r2) := by rw [if_pos rfl] at H; exact H
      clear H
      have H := H1
      clear H1
      obtain ⟨ji18, hji18⟩ : ∃ j_ : Int, (wrap64 ((a1.size : Int) + 1)) = j_ := ⟨_, rfl⟩
      replace H : (if 0 ≤ (ji18) then (if (ji18 : Int).toNat ≤ 281474976710656 then ((some (List.replicate (ji18 : Int).toNat false : List Bool)).bind fun y204 => (if 0 < (y204.length : Int) then (goods_Match.l1 k1 a0 a1 (y204.set (0 : Int).toNat true) (a0.size : Int) 0) else (none))) else (none)) else (none)) = some (r1, r2) := by first | (rw [hji18] at H; exact H) | (simp only [hji18] at H ⊢; exact H)
      (try rw [hji18] at A16)
      have hji18w : (IntKind.i64.wrap ((a1.size : Int) + 1)) = ji18 := (i64_w _).trans hji18
      by_cases c19 : 0 ≤ (ji18)
      ·rw [if_pos c19] at H
       have c19b0 := eq_true c19
       have c19b1 : decide (0 ≤ (ji18)) = true := decide_eq_true c19
       clear c19
       by_cases c20 : (ji18 : Int).toNat ≤ 281474976710656
       ·rw [if_pos c20] at H
        have c20b0 := eq_true c20
        have c20b1 : decide ((ji18 : Int).toNat ≤ 281474976710656) = true := decide_eq_true c20
        clear c20
        obtain ⟨y204, hy204⟩ : ∃ y_ : List Bool, y_ = (List.replicate (ji18 : Int).toNat false) := ⟨_, rfl⟩
        replace H : (if 0 < (y204.length : Int) then (goods_Match.l1 k1 a0 a1 (y204.set (0 : Int).toNat true) (a0.size : Int) 0) else (none)) = some (r1, r2) := by first | (rw [hy204]; with_reducible exact H) | (have H2_ := (Option.bind_some _ _).symm.trans H; rw [hy204]; with_reducible exact H2_) | (have H2_ := (Option.bind_some _ _).symm.trans H; with_reducible exact H2_) | with_reducible exact H | (rw [hy204]; exact H) | exact H
        have Ny204 := Aside0.mk hy204
        clear hy204
        by_cases c21 : 0 < (y204.length : Int)
        ·rw [if_pos c21] at H
         have c21b0 : decide (0 < (y204.length : Int)) = true := decide_eq_true c21
         have c21b1 : decide (0 < y204.length) = true := decide_eq_true (by omega)
         clear c21
         obtain ⟨y207, hy207⟩ : ∃ y_ : List Bool, y_ = (y204.set (0 : Int).toNat true) := ⟨_, rfl⟩
         replace H : (goods_Match.l1 k1 a0 a1 y207 (a0.size : Int) 0) = some (r1, r2) := by first | (rw [hy207]; with_reducible exact H) | (have H2_ := (Option.bind_some _ _).symm.trans H; rw [hy207]; with_reducible exact H2_) | (have H2_ := (Option.bind_some _ _).symm.trans H; with_reducible exact H2_) | with_reducible exact H | (rw [hy207]; exact H) | exact H
         have Ny207 := Aside0.mk hy207
         clear hy207
         have H' := Aside0.mk H
         clear H
         go_wp2_with (first | ((with_reducible refine gate_callee (f := 10) rfl ?_); refine goesL_ (some 43) rfl rfl Tryz.func10 (by kernel_rfl) rfl #[.string a1] rfl (by (try simp only [List.map_toArray, List.map_cons, List.map_nil]); first | done | rfl | (simp only [List.length_drop, List.length_take]; rfl)) ?_; (with_reducible refine (goods_Good.calls k1 a1 true _ A16.out).mono ?_); rintro e w' ⟨rfl, ⟨nd, rfl⟩⟩; refine ⟨_, rfl, ?_⟩; (try (rw [drewN_self wr]; generalize hq_ : World.drewN wr _ = wr; have n0_ : Aside0 (Below w.heap.size w wr) := ⟨by rw [← hq_]; exact (by repeat (first | (with_reducible first | exact HB.out | apply below_alloc | apply pw_below_drewN | apply below_drew1) | exact HB.out))⟩; clear HB hq_; have HB := n0_; clear n0_))) | ((with_reducible refine gate_dst (N := 48) rfl ?_); refine Kd.R_make Kd.bool _ 4 rfl (N := 48) rfl 40 _ _ rfl ji18 rfl rfl Tryz.underlying40 (.bool false) 1 info4 rfl (by decide) (by omega) false (ok := fun _ => True) (okp := fun _ => True) rfl (fun _ hk => hk) trivial (of_decide_eq_true (by first | (with_reducible assumption) | assumption)) (Nat.le_trans (Nat.mul_le_mul_right _ (of_decide_eq_true (by first | (with_reducible assumption) | assumption) : ji18.toNat ≤ 281474976710656)) (by omega)) (Below.refl _ _) (Nat.le_refl _) ?_; intro v205 w23 ho24 hb hg_ hnew_; clear hg_ hnew_; (first | rw [← Ny204.out] at ho24 | (simp only [Int.reduceToNat] at ho24; rw [← Ny204.out] at ho24)); have n0_ := Aside0.mk (Kd.R_lower ho24 (below_size (by repeat (first | (with_reducible first | exact HB.out | apply below_alloc | apply pw_below_drewN | apply below_drew1) | exact HB.out)))); have n1_ := Aside0.mk (below_step (by repeat (first | (with_reducible first | exact HB.out | apply below_alloc | apply pw_below_drewN | apply below_drew1) | exact HB.out)) hb); clear HB; have HO206 := n0_; have HB := n1_; clear n0_ n1_; clear hb ho24; have p22 : 0 ≤ (0 : Int) := (by omega); have q22 : (0 : Int) < ((y204.length : Int) : Int) := of_decide_eq_true (by first | (with_reducible assumption) | assumption); have qi22 : (0 < y204.length) = True := eq_true (by omega); obtain ⟨go22, co22, eo22, gb22, gl22, cl22, HG22⟩ := Kd.R_form HO206.out (by omega); (first | cases eo22 | (injection eo22 with ea_ en_ ec_; (first | subst ea_ | (injection ea_ with ea_; subst ea_)); subst ec_; clear en_)); have GB22 := Aside0.mk gb22; have GG22 := Aside0.mk HG22; clear gb22 gl22 HG22; obtain ⟨hx22_0, hf22_0⟩ := Kd.R_celln false HO206.out (0 : Int) p22 q22; (try rw [show ((0 : Int)).toNat = 0 from rfl] at hx22_0); (try simp only [Nat.reduceMul, Nat.zero_mul, Nat.zero_add, Nat.reduceAdd] at hx22_0); (try rw [show ((0 : Int)).toNat = 0 from rfl] at hf22_0); (try simp only [Nat.reduceMul, Nat.zero_mul, Nat.zero_add, Nat.reduceAdd] at hf22_0); replace p22 := eq_true p22; replace q22 := eq_true q22; obtain ⟨hy25_, hz25_⟩ := Kd.R_celln false HO206.out (0 : Int) (by omega) (of_decide_eq_true (by first | (with_reducible assumption) | assumption)); (try simp only [Int.reduceToNat, Int.toNat_zero, Int.toNat_ofNat, Nat.reduceMul, Nat.zero_mul, Nat.zero_add] at hy25_ hz25_); (try rw [show ((0 : Int)).toNat = 0 from rfl] at hy25_); (try rw [show ((0 : Int)).toNat = 0 from rfl] at hz25_); have HP25 := Kd.R_putg HO206.out (0 : Int) true) | ((with_reducible refine gate_store (t := 4) (p := 50) rfl ?_); refine store_event (t := 4) (p := 50) (v := ?vo_w26) (w1 := (w23.setCell ⟨go22, (0 : Int).toNat, none⟩ (.bool true))) ?hg ?ho ?hn ?hr ?_; (case ho => rfl); (case hg => rfl); (case hn => rfl); (case hr => first | (go_simp; done) | (go_simp; rfl)); intro w26 hw; have hg : w23.grownBy w26 (some go22) := (by rw [hw]; exact HP25.2); have hp_ : Kd.R Kd.bool 4 w26 w.heap.size (fun _ => True) (.slice (some ⟨go22, 0, none⟩) y204.length co22) y207 := (by rw [hw, Ny207.out]; exact HP25.1); clear HP25; have n0_ := Aside0.mk (hp_); have n1_ := Aside0.mk ((by rw [hw]; exact below_set (HB.out) GB22.out : Below w.heap.size w w26)); clear HO206; clear HB; have HO206 := n0_; have HB := n1_; clear n0_ n1_; clear hg hw hp_))
         go_loopg [8, 53] k1 (fun kq v8 v53 w' => ∃ (x8_2 : List Bool) (x53_2 : Int), v53 = .int .i64 x53_2 ∧ Aside0 (goods_Match.l1 kq a0 a1 x8_2 (a0.size : Int) x53_2 = some (r1, r2)) ∧ Aside0 (kq ≤ k1) ∧ Aside0 (Kd.R Kd.bool 4 w' w.heap.size (fun _ => True) v8 x8_2) ∧ Aside0 (Below w.heap.size w w'))
         case atStart => exact ⟨(y207), (0), (by first | rfl | (simp; done) | (simp [*]; done)), H', ⟨Nat.le_refl _⟩, ⟨by (with_reducible repeat (first | apply Kd.R_alloc | apply Kd.R_drewN | apply Kd.R_drew)); exact HO206.out⟩, ⟨by repeat (first | (with_reducible first | exact HB.out | apply below_alloc | apply pw_below_drewN | apply below_drew1) | exact HB.out)⟩⟩
         case round =>
          clear H'
          try clear c1
          try clear c2
          try clear p2
          try clear q2
          try clear hx2
          try clear qi2
          try clear hf2
          try clear c3
          try clear c3b0
          try clear c3b1
          try clear c4
          try clear c4b0
          try clear c5
          try clear c5b0
          try clear c6
          try clear c6b0
          try clear p6
          try clear p7
          try clear q7
          try clear hx7
          try clear c9
          try clear c10
          try clear c11
          try clear c13
          try clear c15
          try clear c15b0
          try clear c17
          try clear c19
          try clear c19b0
          try clear c19b1
          try clear c20
          try clear c20b0
          try clear c20b1
          try clear c21
          try clear c21b0
          try clear c21b1
          try clear p22
          try clear q22
          try clear hx22
          try clear qi22
          try clear hf22
          try clear hx22_0
          try clear p2
          try clear p22
          try clear p7
          try clear q22
          try clear q7
          obtain ⟨x8_2, x53_2, rfl, HA, HK2, HO_8, HB⟩ := hrel
          cases gk with
          | zero => exact absurd HA.out (by simp [goods_Match.l1])
          | succ k2 =>
           have H := HA.out
           clear HA
           simp only [goods_Match.l1] at H
           by_cases c27 : x53_2 < (a0.size : Int)
           ·rw [if_pos c27] at H
            have c27b0 : decide (x53_2 < (a0.size : Int)) = true := decide_eq_true c27
            clear c27
            obtain ⟨ji28, hji28⟩ : ∃ j_ : Int, (wrap64 ((a1.size : Int) + 1)) = j_ := ⟨_, rfl⟩
            replace H : (if 0 ≤ (ji28) then (if (ji28 : Int).toNat ≤ 281474976710656 then (goods_Match.l2 k2 a0 a1 x8_2 x53_2 (List.replicate (ji28 : Int).toNat false) (a0.size : Int) x53_2 (x8_2.length : Int) 0) else (none)) else (none)) = some (r1, r2) := by first | (rw [hji28] at H; exact H) | (simp only [hji28] at H ⊢; exact H)
            have hji28w : (IntKind.i64.wrap ((a1.size : Int) + 1)) = ji28 := (i64_w _).trans hji28
            (try (obtain rfl : ji28 = ji18 := hji28.symm.trans hji18))
            by_cases c29 : 0 ≤ (ji28)
            ·rw [if_pos c29] at H
             have c29b0 := eq_true c29
             have c29b1 : decide (0 ≤ (ji28)) = true := decide_eq_true c29
             clear c29
             by_cases c30 : (ji28 : Int).toNat ≤ 281474976710656
             ·rw [if_pos c30] at H
              have c30b0 := eq_true c30
              have c30b1 : decide ((ji28 : Int).toNat ≤ 281474976710656) = true := decide_eq_true c30
              clear c30
              obtain ⟨y209, hy209⟩ : ∃ y_ : List Bool, y_ = (List.replicate (ji28 : Int).toNat false) := ⟨_, rfl⟩
              replace H : (goods_Match.l2 k2 a0 a1 x8_2 x53_2 y209 (a0.size : Int) x53_2 (x8_2.length : Int) 0) = some (r1, r2) := by first | (rw [hy209]; with_reducible exact H) | (have H2_ := (Option.bind_some _ _).symm.trans H; rw [hy209]; with_reducible exact H2_) | (have H2_ := (Option.bind_some _ _).symm.trans H; with_reducible exact H2_) | with_reducible exact H | (rw [hy209]; exact H) | exact H
              have Ny209 := Aside0.mk hy209
              clear hy209
              have H' := Aside0.mk H
              clear H
              go_wp2_with (first | ((with_reducible refine gate_dst (N := 59) rfl ?_); refine Kd.R_make Kd.bool _ 4 rfl (N := 59) rfl 40 _ _ rfl ji28 rfl rfl Tryz.underlying40 (.bool false) 1 info4 rfl (by decide) (by omega) false (ok := fun _ => True) (okp := fun _ => True) rfl (fun _ hk => hk) trivial (of_decide_eq_true (by first | (with_reducible assumption) | assumption)) (Nat.le_trans (Nat.mul_le_mul_right _ (of_decide_eq_true (by first | (with_reducible assumption) | assumption) : ji28.toNat ≤ 281474976710656)) (by omega)) (Below.refl _ _) (Nat.le_refl _) ?_; intro v210 w31 ho32 hb hg_ hnew_; clear hg_ hnew_; (first | rw [← Ny209.out] at ho32 | (simp only [Int.reduceToNat] at ho32; rw [← Ny209.out] at ho32)); have n0_ := Aside0.mk (Kd.R_elder' (by (with_reducible repeat (first | apply Kd.R_alloc | apply Kd.R_drewN | apply Kd.R_drew)); exact HO_8.out) (Kd.R_base ho32) hb); have n1_ := Aside0.mk (Kd.R_lower (Kd.R_new' ho32 (Kd.R_lt (by (with_reducible repeat (first | apply Kd.R_alloc | apply Kd.R_drewN | apply Kd.R_drew)); exact HO_8.out))) (below_size (by repeat (first | (with_reducible first | exact HB.out | apply below_alloc | apply pw_below_drewN | apply below_drew1) | exact HB.out)))); have n2_ := Aside0.mk (below_step (by repeat (first | (with_reducible first | exact HB.out | apply below_alloc | apply pw_below_drewN | apply below_drew1) | exact HB.out)) hb); clear HO_8; clear HB; have HO_8 := n0_; have HO211 := n1_; have HB := n2_; clear n0_ n1_ n2_; clear hb ho32; obtain ⟨Ao33, co33, eo33⟩ := Kd.R_slice HO_8.out; subst eo33))
              go_loopg [62] k2 (fun kq v62 w' => ∃ (x10_3 : List Bool) (x62_3 : Int), v62 = .int .i64 x62_3 ∧ Aside0 (goods_Match.l2 kq a0 a1 x8_2 x53_2 x10_3 (a0.size : Int) x53_2 (x8_2.length : Int) x62_3 = some (r1, r2)) ∧ Aside0 (kq ≤ k2) ∧ Aside0 (Kd.R Kd.bool 4 w' w.heap.size (fun k_ => some k_ ≠ (v210 : Value).ownBlock) (.slice Ao33 x8_2.length co33) x8_2) ∧ Aside0 (Kd.R Kd.bool 4 w' w.heap.size (fun k_ => some k_ ≠ ((.slice Ao33 x8_2.length co33) : Value).ownBlock) v210 x10_3) ∧ Aside0 (Below w.heap.size w w'))
              case atStart => exact ⟨(y209), (0), (by first | rfl | (simp; done) | (simp [*]; done)), H', ⟨Nat.le_refl _⟩, ⟨by (with_reducible repeat (first | apply Kd.R_alloc | apply Kd.R_drewN | apply Kd.R_drew)); exact Kd.R_mono HO_8.out (fun _ hk => hk.2)⟩, ⟨by (with_reducible repeat (first | apply Kd.R_alloc | apply Kd.R_drewN | apply Kd.R_drew)); exact Kd.R_mono HO211.out (fun _ hk => hk.2)⟩, ⟨by repeat (first | (with_reducible first | exact HB.out | apply below_alloc | apply pw_below_drewN | apply below_drew1) | exact HB.out)⟩⟩
              case round =>
               clear H'
               try clear c1
               try clear c2
               try clear p2
               try clear q2
               try clear hx2
               try clear qi2
               try clear hf2
               try clear c3
               try clear c3b0
               try clear c3b1
               try clear c4
               try clear c4b0
               try clear c5
               try clear c5b0
               try clear c6
               try clear c6b0
               try clear p6
               try clear p7
               try clear q7
               try clear hx7
               try clear c9
               try clear c10
               try clear c11
               try clear c13
               try clear c15
               try clear c15b0
               try clear c17
               try clear c19
               try clear c19b0
               try clear c19b1
               try clear c20
               try clear c20b0
               try clear c20b1
               try clear c21
               try clear c21b0
               try clear c21b1
               try clear p22
               try clear q22
               try clear hx22
               try clear qi22
               try clear hf22
               try clear c27
               try clear c27b0
               try clear c29
               try clear c29b0
               try clear c29b1
               try clear c30
               try clear c30b0
               try clear c30b1
               try clear hx22_0
               try clear p2
               try clear p22
               try clear p6
               try clear p7
               try clear q2
               try clear q22
               try clear q7
               obtain ⟨x10_3, x62_3, rfl, HA, HK3, HO_8, HO_10, HB⟩ := hrel
               cases gk with
               | zero => exact absurd HA.out (by simp [goods_Match.l2])
               | succ k3 =>
                have H := HA.out
                clear HA
                simp only [goods_Match.l2] at H
                by_cases c34 : x62_3 < (x8_2.length : Int)
                ·rw [if_pos c34] at H
                 have c34b0 : decide (x62_3 < (x8_2.length : Int)) = true := decide_eq_true c34
                 clear c34
                 by_cases c35 : 0 ≤ x53_2
                 ·rw [if_pos c35] at H
                  have c35b0 : decide (0 ≤ x53_2) = true := decide_eq_true c35
                  clear c35
                  by_cases c36 : x53_2 < (a0.size : Int)
                  ·rw [if_pos c36] at H
                   have c36b0 : decide (x53_2 < (a0.size : Int)) = true := decide_eq_true c36
                   clear c36
                   by_cases c38 : (bt a0 x53_2) = 42
                   ·rw [if_pos c38] at H
                    have c38b0 : ((bt a0 x53_2) == 42) = true := beq_iff_eq.mpr c38
                    have c38b1 : ((bt a0 x53_2) != 42) = false := bne_eq_false_iff_eq.mpr c38
                    clear c38
                    by_cases c39 : 0 ≤ x62_3
                    ·rw [if_pos c39] at H
                     have c39b0 : decide (0 ≤ x62_3) = true := decide_eq_true c39
                     clear c39
                     by_cases c40 : x62_3 < (x8_2.length : Int)
                     ·rw [if_pos c40] at H
                      have c40b0 : decide (x62_3 < (x8_2.length : Int)) = true := decide_eq_true c40
                      clear c40
                      obtain ⟨bq41, hbq41⟩ : ∃ b_ : Bool, b_ = (rdOf false x8_2 x62_3) := ⟨_, rfl⟩
                      replace H : (if bq41 = true then (if x62_3 < (x10_3.length : Int) then (goods_Match.l2 k3 a0 a1 x8_2 x53_2 (x10_3.set (x62_3 : Int).toNat true) (a0.size : Int) x53_2 (x8_2.length : Int) (wrap64 (x62_3 + 1))) else (none)) else (if x62_3 > 0 then (if 0 ≤ (wrap64 (x62_3 - 1)) then (if (wrap64 (x62_3 - 1)) < (x10_3.length : Int) then (if x62_3 < (x10_3.length : Int) then (goods_Match.l2 k3 a0 a1 x8_2 x53_2 (x10_3.set (x62_3 : Int).toNat (rdOf false x10_3 (wrap64 (x62_3 - 1)))) (a0.size : Int) x53_2 (x8_2.length : Int) (wrap64 (x62_3 + 1))) else (none)) else (none)) else (none)) else (if x62_3 < (x10_3.length : Int) then (goods_Match.l2 k3 a0 a1 x8_2 x53_2 (x10_3.set (x62_3 : Int).toNat false) (a0.size : Int) x53_2 (x8_2.length : Int) (wrap64 (x62_3 + 1))) else (none)))) = some (r1, r2) := by rw [← hbq41] at H; exact H
                      have Nbq41 := Aside0.mk hbq41
                      clear hbq41
                      by_cases c42 : bq41 = true
                      ·subst c42
                       have H1 : (if x62_3 < (x10_3.length : Int) then (goods_Match.l2 k3 a0 a1 x8_2 x53_2 (x10_3.set (x62_3 : Int).toNat true) (a0.size : Int) x53_2 (x8_2.length : Int) (wrap64 (x62_3 + 1))) else (none)) = some (r1, r2) := by rw [if_pos rfl] at H; exact H
                       clear H
                       have H := H1
                       clear H1
                       by_cases c43 : x62_3 < (x10_3.length : Int)
                       ·rw [if_pos c43] at H
                        have c43b0 : decide (x62_3 < (x10_3.length : Int)) = true := decide_eq_true c43
                        clear c43
                        obtain ⟨y213, hy213⟩ : ∃ y_ : List Bool, y_ = (x10_3.set (x62_3 : Int).toNat true) := ⟨_, rfl⟩
                        replace H : (goods_Match.l2 k3 a0 a1 x8_2 x53_2 y213 (a0.size : Int) x53_2 (x8_2.length : Int) (wrap64 (x62_3 + 1))) = some (r1, r2) := by first | (rw [hy213]; with_reducible exact H) | (have H2_ := (Option.bind_some _ _).symm.trans H; rw [hy213]; with_reducible exact H2_) | (have H2_ := (Option.bind_some _ _).symm.trans H; with_reducible exact H2_) | with_reducible exact H | (rw [hy213]; exact H) | exact H
                        have Ny213 := Aside0.mk hy213
                        clear hy213
                        have H' := Aside0.mk H
                        clear H
                        have p37 : 0 ≤ (x53_2 : Int) := of_decide_eq_true (by first | (with_reducible assumption) | assumption)
                        have q37 : x53_2 < (a0.size : Int) := of_decide_eq_true (by first | (with_reducible assumption) | assumption)
                        have hx37 := bt_at a0 x53_2
                        replace p37 := eq_true p37
                        replace q37 := eq_true q37
                        have p212 : 0 ≤ (x62_3 : Int) := of_decide_eq_true (by first | (with_reducible assumption) | assumption)
                        have q212 : x62_3 < (x8_2.length : Int) := of_decide_eq_true (by first | (with_reducible assumption) | assumption)
                        obtain ⟨ad212, e212, hx212_0⟩ := Kd.at_bool (Kd.R_reads' HO_8.out).2.2 x62_3 p212 q212
                        (try rw [← Nbq41.out] at hx212_0)
                        cases e212
                        replace p212 := eq_true p212
                        replace q212 := eq_true q212
                        have p44 : 0 ≤ (x62_3 : Int) := of_decide_eq_true (by first | (with_reducible assumption) | assumption)
                        have q44 : (x62_3 : Int) < ((x10_3.length : Int) : Int) := of_decide_eq_true (by first | (with_reducible assumption) | assumption)
                        obtain ⟨go44, co44, eo44, gb44, gl44, cl44, HG44⟩ := Kd.R_form HO_10.out (by omega)
                        (first | cases eo44 | (injection eo44 with ea_ en_ ec_; (first | subst ea_ | (injection ea_ with ea_; subst ea_)); subst ec_; clear en_))
                        have GB44 := Aside0.mk gb44
                        have GG44 := Aside0.mk HG44
                        clear gb44 gl44 HG44
                        obtain ⟨hx44_0, hf44_0⟩ := Kd.R_celln false HO_10.out (x62_3 : Int) p44 q44
                        replace p44 := eq_true p44
                        replace q44 := eq_true q44
                        have HP45 := Kd.R_putg HO_10.out (x62_3 : Int) true
                        go_wp2_with (first | ((with_reducible refine gate_store (t := 4) (p := 86) rfl ?_); refine store_event (t := 4) (p := 86) (v := ?vo_w46) (w1 := (wr.setCell ⟨go44, (x62_3 : Int).toNat, none⟩ (.bool true))) ?hg ?ho ?hn ?hr ?_; (case ho => rfl); (case hg => rfl); (case hn => rfl); (case hr => first | (go_simp; done) | (go_simp; rfl)); intro w46 hw; have hg : wr.grownBy w46 (some go44) := (by rw [hw]; exact HP45.2); have hp_ : Kd.R Kd.bool 4 w46 w.heap.size (fun k_ => some k_ ≠ (.slice (some ad212) x8_2.length co33 : Value).ownBlock) (.slice (some ⟨go44, 0, none⟩) x10_3.length co44) y213 := (by rw [hw, Ny213.out]; exact HP45.1); clear HP45; have n0_ := Aside0.mk (Kd.R_after (v := (.slice (some ⟨go44, 0, none⟩) x10_3.length co44)) (v1 := (.slice (some ⟨go44, 0, none⟩) x10_3.length co44)) (ok := (fun _ => True)) (by (with_reducible repeat (first | apply Kd.R_alloc | apply Kd.R_drewN | apply Kd.R_drew)); exact Kd.R_mono HO_8.out (fun _ hk => ⟨trivial, hk⟩)) hg (.inl rfl)); have n1_ := Aside0.mk (hp_); have n2_ := Aside0.mk ((by rw [hw]; exact below_set (HB.out) GB44.out : Below w.heap.size w w46)); clear HO_8; clear HO_10; clear HB; have HO_8 := n0_; have HO_10 := n1_; have HB := n2_; clear n0_ n1_ n2_; clear hg hw hp_))
                        go_roundg k3
                        case measure => have := HK1.out; have := HK2.out; have := HK3.out; omega
                        case rel => exact ⟨(y213), (wrap64 (x62_3 + 1)), (by first | rfl | (simp; done) | (simp [*]; done)), H', ⟨by have := HK1.out; have := HK2.out; have := HK3.out; omega⟩, ⟨by (with_reducible repeat (first | apply Kd.R_alloc | apply Kd.R_drewN | apply Kd.R_drew)); exact Kd.R_mono HO_8.out (fun _ hk => hk.2)⟩, ⟨by (with_reducible repeat (first | apply Kd.R_alloc | apply Kd.R_drewN | apply Kd.R_drew)); exact HO_10.out⟩, ⟨by repeat (first | (with_reducible first | exact HB.out | apply below_alloc | apply pw_below_drewN | apply below_drew1) | exact HB.out)⟩⟩
                       ·rw [if_neg c43] at H
                        exact absurd H (by simp)
                      ·replace c42 := Bool.eq_false_iff.mpr c42
                       subst c42
                       have H1 : (if x62_3 > 0 then (if 0 ≤ (wrap64 (x62_3 - 1)) then (if (wrap64 (x62_3 - 1)) < (x10_3.length : Int) then (if x62_3 < (x10_3.length : Int) then (goods_Match.l2 k3 a0 a1 x8_2 x53_2 (x10_3.set (x62_3 : Int).toNat (rdOf false x10_3 (wrap64 (x62_3 - 1)))) (a0.size : Int) x53_2 (x8_2.length : Int) (wrap64 (x62_3 + 1))) else (none)) else (none)) else (none)) else (if x62_3 < (x10_3.length : Int) then (goods_Match.l2 k3 a0 a1 x8_2 x53_2 (x10_3.set (x62_3 : Int).toNat false) (a0.size : Int) x53_2 (x8_2.length : Int) (wrap64 (x62_3 + 1))) else (none))) = some (r1, r2) := by rw [if_neg (show ¬ (false = true) by decide)] at H; exact H
                       clear H
                       have H := H1
                       clear H1
                       by_cases c47 : x62_3 > 0
                       ·rw [if_pos c47] at H
                        have c47b0 : decide (0 < x62_3) = true := decide_eq_true c47
                        clear c47
                        obtain ⟨ji48, hji48⟩ : ∃ j_ : Int, (wrap64 (x62_3 - 1)) = j_ := ⟨_, rfl⟩
                        replace H : (if 0 ≤ (ji48) then (if (ji48) < (x10_3.length : Int) then (if x62_3 < (x10_3.length : Int) then (goods_Match.l2 k3 a0 a1 x8_2 x53_2 (x10_3.set (x62_3 : Int).toNat (rdOf false x10_3 (ji48))) (a0.size : Int) x53_2 (x8_2.length : Int) (wrap64 (x62_3 + 1))) else (none)) else (none)) else (none)) = some (r1, r2) := by first | (rw [hji48] at H; exact H) | (simp only [hji48] at H ⊢; exact H)
                        have hji48w : (IntKind.i64.wrap (x62_3 - 1)) = ji48 := (i64_w _).trans hji48
                        by_cases c49 : 0 ≤ (ji48)
                        ·rw [if_pos c49] at H
                         have c49b0 : decide (0 ≤ (ji48)) = true := decide_eq_true c49
                         clear c49
                         by_cases c50 : (ji48) < (x10_3.length : Int)
                         ·rw [if_pos c50] at H
                          have c50b0 : decide ((ji48) < (x10_3.length : Int)) = true := decide_eq_true c50
                          clear c50
                          by_cases c51 : x62_3 < (x10_3.length : Int)
                          ·rw [if_pos c51] at H
                           have c51b0 : decide (x62_3 < (x10_3.length : Int)) = true := decide_eq_true c51
                           clear c51
                           obtain ⟨y215, hy215⟩ : ∃ y_ : List Bool, y_ = (x10_3.set (x62_3 : Int).toNat (rdOf false x10_3 (ji48))) := ⟨_, rfl⟩
                           replace H : (goods_Match.l2 k3 a0 a1 x8_2 x53_2 y215 (a0.size : Int) x53_2 (x8_2.length : Int) (wrap64 (x62_3 + 1))) = some (r1, r2) := by first | (rw [hy215]; with_reducible exact H) | (have H2_ := (Option.bind_some _ _).symm.trans H; rw [hy215]; with_reducible exact H2_) | (have H2_ := (Option.bind_some _ _).symm.trans H; with_reducible exact H2_) | with_reducible exact H | (rw [hy215]; exact H) | exact H
                           have Ny215 := Aside0.mk hy215
                           clear hy215
                           have H' := Aside0.mk H
                           clear H
                           have p37 : 0 ≤ (x53_2 : Int) := of_decide_eq_true (by first | (with_reducible assumption) | assumption)
                           have q37 : x53_2 < (a0.size : Int) := of_decide_eq_true (by first | (with_reducible assumption) | assumption)
                           have hx37 := bt_at a0 x53_2
                           replace p37 := eq_true p37
                           replace q37 := eq_true q37
                           have p212 : 0 ≤ (x62_3 : Int) := of_decide_eq_true (by first | (with_reducible assumption) | assumption)
                           have q212 : x62_3 < (x8_2.length : Int) := of_decide_eq_true (by first | (with_reducible assumption) | assumption)
                           obtain ⟨ad212, e212, hx212_0⟩ := Kd.at_bool (Kd.R_reads' HO_8.out).2.2 x62_3 p212 q212
                           (try rw [← Nbq41.out] at hx212_0)
                           cases e212
                           replace p212 := eq_true p212
                           replace q212 := eq_true q212
                           obtain ⟨Ao53, co53, eo53⟩ := Kd.R_slice HO_10.out
                           subst eo53
                           have p214 : 0 ≤ ((ji48) : Int) := of_decide_eq_true (by first | (with_reducible assumption) | assumption)
                           have q214 : (ji48) < (x10_3.length : Int) := of_decide_eq_true (by first | (with_reducible assumption) | assumption)
                           obtain ⟨ad214, e214, hx214_0⟩ := Kd.at_bool (Kd.R_reads' HO_10.out).2.2 (ji48) p214 q214
                           (try rw [← Nbq41.out] at hx214_0)
                           cases e214
                           replace p214 := eq_true p214
                           replace q214 := eq_true q214
                           have p52 : 0 ≤ (x62_3 : Int) := of_decide_eq_true (by first | (with_reducible assumption) | assumption)
                           have q52 : (x62_3 : Int) < ((x10_3.length : Int) : Int) := of_decide_eq_true (by first | (with_reducible assumption) | assumption)
                           obtain ⟨go52, co52, eo52, gb52, gl52, cl52, HG52⟩ := Kd.R_form HO_10.out (by omega)
                           (first | cases eo52 | (injection eo52 with ea_ en_ ec_; (first | subst ea_ | (injection ea_ with ea_; subst ea_)); subst ec_; clear en_))
                           have GB52 := Aside0.mk gb52
                           have GG52 := Aside0.mk HG52
                           clear gb52 gl52 HG52
                           (first | simp only [add_plain] at hx214_0 | skip)
                           obtain ⟨hx52_0, hf52_0⟩ := Kd.R_celln false HO_10.out (x62_3 : Int) p52 q52
                           replace p52 := eq_true p52
                           replace q52 := eq_true q52
                           have HP54 := Kd.R_putg HO_10.out (x62_3 : Int) (rdOf false x10_3 (ji48))
                           go_wp2_with (first | ((with_reducible refine gate_store (t := 4) (p := 86) rfl ?_); refine store_event (t := 4) (p := 86) (v := ?vo_w55) (w1 := (wr.setCell ⟨go52, (x62_3 : Int).toNat, none⟩ (.bool (rdOf false x10_3 (ji48))))) ?hg ?ho ?hn ?hr ?_; (case ho => rfl); (case hg => rfl); (case hn => rfl); (case hr => first | (go_simp; done) | (go_simp; rfl)); intro w55 hw; have hg : wr.grownBy w55 (some go52) := (by rw [hw]; exact HP54.2); have hp_ : Kd.R Kd.bool 4 w55 w.heap.size (fun k_ => some k_ ≠ (.slice (some ad212) x8_2.length co33 : Value).ownBlock) (.slice (some ⟨go52, 0, none⟩) x10_3.length co53) y215 := (by rw [hw, Ny215.out]; exact HP54.1); clear HP54; have n0_ := Aside0.mk (Kd.R_after (v := (.slice (some ⟨go52, 0, none⟩) x10_3.length co53)) (v1 := (.slice (some ⟨go52, 0, none⟩) x10_3.length co53)) (ok := (fun _ => True)) (by (with_reducible repeat (first | apply Kd.R_alloc | apply Kd.R_drewN | apply Kd.R_drew)); exact Kd.R_mono HO_8.out (fun _ hk => ⟨trivial, hk⟩)) hg (.inl rfl)); have n1_ := Aside0.mk (hp_); have n2_ := Aside0.mk ((by rw [hw]; exact below_set (HB.out) GB52.out : Below w.heap.size w w55)); clear HO_8; clear HO_10; clear HB; have HO_8 := n0_; have HO_10 := n1_; have HB := n2_; clear n0_ n1_ n2_; clear hg hw hp_))
                           go_roundg k3
                           case measure => have := HK1.out; have := HK2.out; have := HK3.out; omega
                           case rel => exact ⟨(y215), (wrap64 (x62_3 + 1)), (by first | rfl | (simp; done) | (simp [*]; done)), H', ⟨by have := HK1.out; have := HK2.out; have := HK3.out; omega⟩, ⟨by (with_reducible repeat (first | apply Kd.R_alloc | apply Kd.R_drewN | apply Kd.R_drew)); exact Kd.R_mono HO_8.out (fun _ hk => hk.2)⟩, ⟨by (with_reducible repeat (first | apply Kd.R_alloc | apply Kd.R_drewN | apply Kd.R_drew)); exact HO_10.out⟩, ⟨by repeat (first | (with_reducible first | exact HB.out | apply below_alloc | apply pw_below_drewN | apply below_drew1) | exact HB.out)⟩⟩
                          ·rw [if_neg c51] at H
                           exact absurd H (by simp)
                         ·rw [if_neg c50] at H
                          exact absurd H (by simp)
                        ·rw [if_neg c49] at H
                         exact absurd H (by simp)
                       ·rw [if_neg c47] at H
                        have c47b0 : decide (0 < x62_3) = false := decide_eq_false c47
                        clear c47
                        by_cases c56 : x62_3 < (x10_3.length : Int)
                        ·rw [if_pos c56] at H
                         have c56b0 : decide (x62_3 < (x10_3.length : Int)) = true := decide_eq_true c56
                         clear c56
                         obtain ⟨y216, hy216⟩ : ∃ y_ : List Bool, y_ = (x10_3.set (x62_3 : Int).toNat false) := ⟨_, rfl⟩
                         replace H : (goods_Match.l2 k3 a0 a1 x8_2 x53_2 y216 (a0.size : Int) x53_2 (x8_2.length : Int) (wrap64 (x62_3 + 1))) = some (r1, r2) := by first | (rw [hy216]; with_reducible exact H) | (have H2_ := (Option.bind_some _ _).symm.trans H; rw [hy216]; with_reducible exact H2_) | (have H2_ := (Option.bind_some _ _).symm.trans H; with_reducible exact H2_) | with_reducible exact H | (rw [hy216]; exact H) | exact H
                         have Ny216 := Aside0.mk hy216
                         clear hy216
                         have H' := Aside0.mk H
                         clear H
                         have p37 : 0 ≤ (x53_2 : Int) := of_decide_eq_true (by first | (with_reducible assumption) | assumption)
                         have q37 : x53_2 < (a0.size : Int) := of_decide_eq_true (by first | (with_reducible assumption) | assumption)
                         have hx37 := bt_at a0 x53_2
                         replace p37 := eq_true p37
                         replace q37 := eq_true q37
                         have p212 : 0 ≤ (x62_3 : Int) := of_decide_eq_true (by first | (with_reducible assumption) | assumption)
                         have q212 : x62_3 < (x8_2.length : Int) := of_decide_eq_true (by first | (with_reducible assumption) | assumption)
                         obtain ⟨ad212, e212, hx212_0⟩ := Kd.at_bool (Kd.R_reads' HO_8.out).2.2 x62_3 p212 q212
                         (try rw [← Nbq41.out] at hx212_0)
                         cases e212
                         replace p212 := eq_true p212
                         replace q212 := eq_true q212
                         have p57 : 0 ≤ (x62_3 : Int) := of_decide_eq_true (by first | (with_reducible assumption) | assumption)
                         have q57 : (x62_3 : Int) < ((x10_3.length : Int) : Int) := of_decide_eq_true (by first | (with_reducible assumption) | assumption)
                         obtain ⟨go57, co57, eo57, gb57, gl57, cl57, HG57⟩ := Kd.R_form HO_10.out (by omega)
                         (first | cases eo57 | (injection eo57 with ea_ en_ ec_; (first | subst ea_ | (injection ea_ with ea_; subst ea_)); subst ec_; clear en_))
                         have GB57 := Aside0.mk gb57
                         have GG57 := Aside0.mk HG57
                         clear gb57 gl57 HG57
                         obtain ⟨hx57_0, hf57_0⟩ := Kd.R_celln false HO_10.out (x62_3 : Int) p57 q57
                         replace p57 := eq_true p57
                         replace q57 := eq_true q57
                         have HP58 := Kd.R_putg HO_10.out (x62_3 : Int) false
                         go_wp2_with (first | ((with_reducible refine gate_store (t := 4) (p := 86) rfl ?_); refine store_event (t := 4) (p := 86) (v := ?vo_w59) (w1 := (wr.setCell ⟨go57, (x62_3 : Int).toNat, none⟩ (.bool false))) ?hg ?ho ?hn ?hr ?_; (case ho => rfl); (case hg => rfl); (case hn => rfl); (case hr => first | (go_simp; done) | (go_simp; rfl)); intro w59 hw; have hg : wr.grownBy w59 (some go57) := (by rw [hw]; exact HP58.2); have hp_ : Kd.R Kd.bool 4 w59 w.heap.size (fun k_ => some k_ ≠ (.slice (some ad212) x8_2.length co33 : Value).ownBlock) (.slice (some ⟨go57, 0, none⟩) x10_3.length co57) y216 := (by rw [hw, Ny216.out]; exact HP58.1); clear HP58; have n0_ := Aside0.mk (Kd.R_after (v := (.slice (some ⟨go57, 0, none⟩) x10_3.length co57)) (v1 := (.slice (some ⟨go57, 0, none⟩) x10_3.length co57)) (ok := (fun _ => True)) (by (with_reducible repeat (first | apply Kd.R_alloc | apply Kd.R_drewN | apply Kd.R_drew)); exact Kd.R_mono HO_8.out (fun _ hk => ⟨trivial, hk⟩)) hg (.inl rfl)); have n1_ := Aside0.mk (hp_); have n2_ := Aside0.mk ((by rw [hw]; exact below_set (HB.out) GB57.out : Below w.heap.size w w59)); clear HO_8; clear HO_10; clear HB; have HO_8 := n0_; have HO_10 := n1_; have HB := n2_; clear n0_ n1_ n2_; clear hg hw hp_))
                         go_roundg k3
                         case measure => have := HK1.out; have := HK2.out; have := HK3.out; omega
                         case rel => exact ⟨(y216), (wrap64 (x62_3 + 1)), (by first | rfl | (simp; done) | (simp [*]; done)), H', ⟨by have := HK1.out; have := HK2.out; have := HK3.out; omega⟩, ⟨by (with_reducible repeat (first | apply Kd.R_alloc | apply Kd.R_drewN | apply Kd.R_drew)); exact Kd.R_mono HO_8.out (fun _ hk => hk.2)⟩, ⟨by (with_reducible repeat (first | apply Kd.R_alloc | apply Kd.R_drewN | apply Kd.R_drew)); exact HO_10.out⟩, ⟨by repeat (first | (with_reducible first | exact HB.out | apply below_alloc | apply pw_below_drewN | apply below_drew1) | exact HB.out)⟩⟩
                        ·rw [if_neg c56] at H
                         exact absurd H (by simp)
                     ·rw [if_neg c40] at H
                      exact absurd H (by simp)
                    ·rw [if_neg c39] at H
                     exact absurd H (by simp)
                   ·rw [if_neg c38] at H
                    have c38b0 : ((bt a0 x53_2) == 42) = false := beq_eq_false_iff_ne.mpr c38
                    have c38b1 : ((bt a0 x53_2) != 42) = true := bne_iff_ne.mpr c38
                    by_cases c60 : x62_3 > 0
                    ·rw [if_pos c60] at H
                     have c60b0 : decide (0 < x62_3) = true := decide_eq_true c60
                     clear c60
                     obtain ⟨ji61, hji61⟩ : ∃ j_ : Int, (wrap64 (x62_3 - 1)) = j_ := ⟨_, rfl⟩
                     replace H : (if 0 ≤ (ji61) then (if (ji61) < (x8_2.length : Int) then (if rdOf false x8_2 (ji61) = true then (if (ji61) < (a1.size : Int) then ((goods_fits.f (bt a0 x53_2) (bt a1 (ji61))).bind fun t218 => (if 0 ≤ x62_3 then (if x62_3 < (x10_3.length : Int) then (goods_Match.l2 k3 a0 a1 x8_2 x53_2 (x10_3.set (x62_3 : Int).toNat t218) (a0.size : Int) x53_2 (x8_2.length : Int) (wrap64 (x62_3 + 1))) else (none)) else (none))) else (none)) else (if 0 ≤ x62_3 then (if x62_3 < (x10_3.length : Int) then (goods_Match.l2 k3 a0 a1 x8_2 x53_2 (x10_3.set (x62_3 : Int).toNat false) (a0.size : Int) x53_2 (x8_2.length : Int) (wrap64 (x62_3 + 1))) else (none)) else (none))) else (none)) else (none)) = some (r1, r2) := by first | (rw [hji61] at H; exact H) | (simp only [hji61] at H ⊢; exact H)
                     have hji61w : (IntKind.i64.wrap (x62_3 - 1)) = ji61 := (i64_w _).trans hji61
                     by_cases c62 : 0 ≤ (ji61)
                     ·rw [if_pos c62] at H
                      have c62b0 : decide (0 ≤ (ji61)) = true := decide_eq_true c62
                      clear c62
                      by_cases c63 : (ji61) < (x8_2.length : Int)
                      ·rw [if_pos c63] at H
                       have c63b0 : decide ((ji61) < (x8_2.length : Int)) = true := decide_eq_true c63
                       clear c63
                       obtain ⟨bq64, hbq64⟩ : ∃ b_ : Bool, b_ = (rdOf false x8_2 (ji61)) := ⟨_, rfl⟩
                       replace H : (if bq64 = true then (if (ji61) < (a1.size : Int) then ((goods_fits.f (bt a0 x53_2) (bt a1 (ji61))).bind fun t218 => (if 0 ≤ x62_3 then (if x62_3 < (x10_3.length : Int) then (goods_Match.l2 k3 a0 a1 x8_2 x53_2 (x10_3.set (x62_3 : Int).toNat t218) (a0.size : Int) x53_2 (x8_2.length : Int) (wrap64 (x62_3 + 1))) else (none)) else (none))) else (none)) else (if 0 ≤ x62_3 then (if x62_3 < (x10_3.length : Int) then (goods_Match.l2 k3 a0 a1 x8_2 x53_2 (x10_3.set (x62_3 : Int).toNat false) (a0.size : Int) x53_2 (x8_2.length : Int) (wrap64 (x62_3 + 1))) else (none)) else (none))) = some (r1, r2) := by rw [← hbq64] at H; exact H
                       have Nbq64 := Aside0.mk hbq64
                       clear hbq64
                       by_cases c65 : bq64 = true
                       ·subst c65
                        have H1 : (if (ji61) < (a1.size : Int) then ((goods_fits.f (bt a0 x53_2) (bt a1 (ji61))).bind fun t218 => (if 0 ≤ x62_3 then (if x62_3 < (x10_3.length : Int) then (goods_Match.l2 k3 a0 a1 x8_2 x53_2 (x10_3.set (x62_3 : Int).toNat t218) (a0.size : Int) x53_2 (x8_2.length : Int) (wrap64 (x62_3 + 1))) else (none)) else (none))) else (none)) = some (r1, r2) := by rw [if_pos rfl] at H; exact H
                        clear H
                        have H := H1
                        clear H1
                        by_cases c67 : (ji61) < (a1.size : Int)
                        ·rw [if_pos c67] at H
                         have c67b0 : decide ((ji61) < (a1.size : Int)) = true := decide_eq_true c67
                         clear c67
                         replace H := Option.bind_eq_some_iff.mp H
                         obtain ⟨t218, A690, H⟩ := H
                         replace H : (if 0 ≤ x62_3 then (if x62_3 < (x10_3.length : Int) then (goods_Match.l2 k3 a0 a1 x8_2 x53_2 (x10_3.set (x62_3 : Int).toNat t218) (a0.size : Int) x53_2 (x8_2.length : Int) (wrap64 (x62_3 + 1))) else (none)) else (none)) = some (r1, r2) := H
                         have A69 := Aside0.mk A690
                         clear A690
                         by_cases c70 : 0 ≤ x62_3
                         ·rw [if_pos c70] at H
                          have c70b0 : decide (0 ≤ x62_3) = true := decide_eq_true c70
                          clear c70
                          by_cases c71 : x62_3 < (x10_3.length : Int)
                          ·rw [if_pos c71] at H
                           have c71b0 : decide (x62_3 < (x10_3.length : Int)) = true := decide_eq_true c71
                           clear c71
                           obtain ⟨y219, hy219⟩ : ∃ y_ : List Bool, y_ = (x10_3.set (x62_3 : Int).toNat t218) := ⟨_, rfl⟩
                           replace H : (goods_Match.l2 k3 a0 a1 x8_2 x53_2 y219 (a0.size : Int) x53_2 (x8_2.length : Int) (wrap64 (x62_3 + 1))) = some (r1, r2) := by first | (rw [hy219]; with_reducible exact H) | (have H2_ := (Option.bind_some _ _).symm.trans H; rw [hy219]; with_reducible exact H2_) | (have H2_ := (Option.bind_some _ _).symm.trans H; with_reducible exact H2_) | with_reducible exact H | (rw [hy219]; exact H) | exact H
                           have Ny219 := Aside0.mk hy219
                           clear hy219
                           have H' := Aside0.mk H
                           clear H
                           have p37 : 0 ≤ (x53_2 : Int) := of_decide_eq_true (by first | (with_reducible assumption) | assumption)
                           have q37 : x53_2 < (a0.size : Int) := of_decide_eq_true (by first | (with_reducible assumption) | assumption)
                           have hx37 := bt_at a0 x53_2
                           replace p37 := eq_true p37
                           replace q37 := eq_true q37
                           try go_wp2
                           have n0_ := Aside0.mk (Kd.R_drew HO_8.out)
                           have n1_ := Aside0.mk (Kd.R_drew HO_10.out)
                           have n2_ := Aside0.mk (below_drew1 HB.out)
                           clear HO_8
                           clear HO_10
                           clear HB
                           have HO_8 := n0_
                           have HO_10 := n1_
                           have HB := n2_
                           clear n0_ n1_ n2_
                           have p217 : 0 ≤ ((ji61) : Int) := of_decide_eq_true (by first | (with_reducible assumption) | assumption)
                           have q217 : (ji61) < (x8_2.length : Int) := of_decide_eq_true (by first | (with_reducible assumption) | assumption)
                           obtain ⟨ad217, e217, hx217_0⟩ := Kd.at_bool (Kd.R_reads' HO_8.out).2.2 (ji61) p217 q217
                           (try rw [← Nbq64.out] at hx217_0)
                           cases e217
                           replace p217 := eq_true p217
                           replace q217 := eq_true q217
                           have p66 : 0 ≤ (x53_2 : Int) := of_decide_eq_true (by first | (with_reducible assumption) | assumption)
                           have q66 : x53_2 < (a0.size : Int) := of_decide_eq_true (by first | (with_reducible assumption) | assumption)
                           have hx66 := bt_at a0 x53_2
                           replace p66 := eq_true p66
                           replace q66 := eq_true q66
                           have p68 : 0 ≤ ((ji61) : Int) := of_decide_eq_true (by first | (with_reducible assumption) | assumption)
                           have q68 : (ji61) < (a1.size : Int) := of_decide_eq_true (by first | (with_reducible assumption) | assumption)
                           have hx68 := bt_at a1 (ji61)
                           replace p68 := eq_true p68
                           replace q68 := eq_true q68
                           refine start_ (n := 23) (S := fun w' => w'.cell? (ad217.add ((ji61)).toNat) = some (.bool true)) (ds := [22]) #[false, false, false, false, false, false, false, false, false, false, false, false, false, false, false, false, false, false, false, false, false, false, false] (by kernel_rfl) rfl rfl (hx217_0) (fun hHeld => ?_); refine with_tabW goods_Match.tab23 goods_Match.bits23 (fun HT_ HW_ => ?_)
                           generalize wr.drew = w73 at HO_8 HO_10 HB hx217_0 hHeld ⊢
                           refine pure_ (i := 0) (N := some 87) (v := ?_) (a' := ?_) #[true, false, false, false, false, false, false, false, false, false, false, false, false, false, false, false, false, false, false, false, false, false, false] rfl rfl (any_of HT_.out (by kernel_rfl)) (fun _ _ _ h => h) (Or.inl ⟨by rfl, ?_⟩) ?_ ?_
                           rotate_left
                           ·intro w'
                            go_simp
                            with_reducible rfl
                           rotate_left
                           ·simp only [Act.put, List.setIfInBounds_toArray, List.set_cons_zero, List.set_cons_succ, i64_w, i32_w]
                            rfl
                           refine pure_ (i := 1) (N := some 88) (v := ?_) (a' := ?_) #[true, true, false, false, false, false, false, false, false, false, false, false, false, false, false, false, false, false, false, false, false, false, false] rfl rfl (any_of HT_.out (by kernel_rfl)) (fun _ _ _ h => h) (Or.inl ⟨by rfl, ?_⟩) ?_ ?_
                           rotate_left
                           ·intro w'
                            go_simp
                            with_reducible rfl
                           rotate_left
                           ·simp only [Act.put, List.setIfInBounds_toArray, List.set_cons_zero, List.set_cons_succ, i64_w, i32_w]
                            rfl
                           refine pure_ (i := 2) (N := some 89) (v := ?_) (a' := ?_) #[true, true, true, false, false, false, false, false, false, false, false, false, false, false, false, false, false, false, false, false, false, false, false] rfl rfl (any_of HT_.out (by kernel_rfl)) (fun _ _ _ h => h) (Or.inl ⟨by rfl, ?_⟩) ?_ ?_
                           rotate_left
                           ·intro w'
                            go_simp
                            with_reducible rfl
                           rotate_left
                           ·simp only [Act.put, List.setIfInBounds_toArray, List.set_cons_zero, List.set_cons_succ, i64_w, i32_w]
                            rfl
                           refine pure_ (i := 3) (N := some 90) (v := ?_) (a' := ?_) #[true, true, true, true, false, false, false, false, false, false, false, false, false, false, false, false, false, false, false, false, false, false, false] rfl rfl (any_of HT_.out (by kernel_rfl)) (fun _ _ _ h => h) (Or.inl ⟨by rfl, ?_⟩) ?_ ?_
                           rotate_left
                           ·intro w'
                            go_simp
                            with_reducible rfl
                           rotate_left
                           ·simp only [Act.put, List.setIfInBounds_toArray, List.set_cons_zero, List.set_cons_succ, i64_w, i32_w]
                            rfl
                           refine pure_ (i := 4) (N := some 91) (v := ?_) (a' := ?_) #[true, true, true, true, true, false, false, false, false, false, false, false, false, false, false, false, false, false, false, false, false, false, false] rfl rfl (any_of HT_.out (by kernel_rfl)) (fun _ _ _ h => h) (Or.inl ⟨by rfl, ?_⟩) ?_ ?_
                           rotate_left
                           ·intro w'
                            go_simp
                            with_reducible rfl
                           rotate_left
                           ·simp only [Act.put, List.setIfInBounds_toArray, List.set_cons_zero, List.set_cons_succ, i64_w, i32_w]
                            rfl
                           refine pure_ (i := 5) (N := some 92) (v := ?_) (a' := ?_) #[true, true, true, true, true, true, false, false, false, false, false, false, false, false, false, false, false, false, false, false, false, false, false] rfl rfl (any_of HT_.out (by kernel_rfl)) (fun _ _ _ h => h) (Or.inl ⟨by rfl, ?_⟩) ?_ ?_
                           rotate_left
                           ·intro w'
                            go_simp
                            with_reducible rfl
                           rotate_left
                           ·simp only [Act.put, List.setIfInBounds_toArray, List.set_cons_zero, List.set_cons_succ, i64_w, i32_w]
                            rfl
                           refine pure_ (i := 6) (N := some 93) (v := ?_) (a' := ?_) #[true, true, true, true, true, true, true, false, false, false, false, false, false, false, false, false, false, false, false, false, false, false, false] rfl rfl (any_of HT_.out (by kernel_rfl)) (fun _ _ _ h => h) (Or.inl ⟨by rfl, ?_⟩) ?_ ?_
                           rotate_left
                           ·intro w'
                            go_simp
                            with_reducible rfl
                           rotate_left
                           ·simp only [Act.put, List.setIfInBounds_toArray, List.set_cons_zero, List.set_cons_succ, i64_w, i32_w]
                            rfl
                           refine pure_ (i := 7) (N := some 94) (v := ?_) (a' := ?_) #[true, true, true, true, true, true, true, true, false, false, false, false, false, false, false, false, false, false, false, false, false, false, false] rfl rfl (any_of HT_.out (by kernel_rfl)) (fun _ _ _ h => h) (Or.inl ⟨by rfl, ?_⟩) ?_ ?_
                           rotate_left
                           ·intro w'
                            go_simp
                            with_reducible rfl
                           rotate_left
                           ·simp only [Act.put, List.setIfInBounds_toArray, List.set_cons_zero, List.set_cons_succ, i64_w, i32_w]
                            rfl
                           refine pure_ (i := 8) (N := some 95) (v := ?_) (a' := ?_) #[true, true, true, true, true, true, true, true, true, false, false, false, false, false, false, false, false, false, false, false, false, false, false] rfl rfl (any_of HT_.out (by kernel_rfl)) (fun _ _ _ h => h) (Or.inl ⟨by rfl, ?_⟩) ?_ ?_
                           rotate_left
                           ·intro w'
                            go_simp
                            with_reducible rfl
                           rotate_left
                           ·simp only [Act.put, List.setIfInBounds_toArray, List.set_cons_zero, List.set_cons_succ, i64_w, i32_w]
                            rfl
                           refine take_ (i := 9) (N := some 96) (v := ?_) (a' := ?_) #[true, true, true, true, true, true, true, true, true, true, false, false, false, false, false, false, false, false, false, false, false, false, false] rfl rfl (take_ofW HT_.out HW_.out (by kernel_rfl)) (fun _ _ _ h => h) (Or.inl ⟨by rfl, ?_⟩) hHeld ?_ ?_
                           rotate_left
                           ·intro w' s0
                            go_simp
                            with_reducible rfl
                           rotate_left
                           ·simp only [Act.put, List.setIfInBounds_toArray, List.set_cons_zero, List.set_cons_succ, i64_w, i32_w]
                            rfl
                           refine pure_ (i := 10) (N := some 97) (v := ?_) (a' := ?_) #[true, true, true, true, true, true, true, true, true, true, true, false, false, false, false, false, false, false, false, false, false, false, false] rfl rfl (any_of HT_.out (by kernel_rfl)) (fun _ _ _ h => h) (Or.inl ⟨by rfl, ?_⟩) ?_ ?_
                           rotate_left
                           ·intro w'
                            go_simp
                            with_reducible rfl
                           rotate_left
                           ·simp only [Act.put, List.setIfInBounds_toArray, List.set_cons_zero, List.set_cons_succ, i64_w, i32_w]
                            rfl
                           refine pure_ (i := 11) (N := some 98) (v := ?_) (a' := ?_) #[true, true, true, true, true, true, true, true, true, true, true, true, false, false, false, false, false, false, false, false, false, false, false] rfl rfl (any_of HT_.out (by kernel_rfl)) (fun _ _ _ h => h) (Or.inl ⟨by rfl, ?_⟩) ?_ ?_
                           rotate_left
                           ·intro w'
                            go_simp
                            with_reducible rfl
                           rotate_left
                           ·simp only [Act.put, List.setIfInBounds_toArray, List.set_cons_zero, List.set_cons_succ, i64_w, i32_w]
                            rfl
                           refine pure_ (i := 12) (N := some 99) (v := ?_) (a' := ?_) #[true, true, true, true, true, true, true, true, true, true, true, true, true, false, false, false, false, false, false, false, false, false, false] rfl rfl (any_of HT_.out (by kernel_rfl)) (fun _ _ _ h => h) (Or.inl ⟨by rfl, ?_⟩) ?_ ?_
                           rotate_left
                           ·intro w'
                            go_simp
                            with_reducible rfl
                           rotate_left
                           ·simp only [Act.put, List.setIfInBounds_toArray, List.set_cons_zero, List.set_cons_succ, i64_w, i32_w]
                            rfl
                           refine pure_ (i := 13) (N := some 100) (v := ?_) (a' := ?_) #[true, true, true, true, true, true, true, true, true, true, true, true, true, true, false, false, false, false, false, false, false, false, false] rfl rfl (any_of HT_.out (by kernel_rfl)) (fun _ _ _ h => h) (Or.inl ⟨by rfl, ?_⟩) ?_ ?_
                           rotate_left
                           ·intro w'
                            go_simp
                            with_reducible rfl
                           rotate_left
                           ·simp only [Act.put, List.setIfInBounds_toArray, List.set_cons_zero, List.set_cons_succ, i64_w, i32_w]
                            rfl
                           refine pure_ (i := 15) (N := some 102) (v := ?_) (a' := ?_) #[true, true, true, true, true, true, true, true, true, true, true, true, true, true, false, true, false, false, false, false, false, false, false] rfl rfl (any_of HT_.out (by kernel_rfl)) (fun _ _ _ h => h) (Or.inl ⟨by rfl, ?_⟩) ?_ ?_
                           rotate_left
                           ·intro w'
                            go_simp
                            with_reducible rfl
                           rotate_left
                           ·simp only [Act.put, List.setIfInBounds_toArray, List.set_cons_zero, List.set_cons_succ, i64_w, i32_w]
                            rfl
                           refine pure_ (i := 16) (N := some 103) (v := ?_) (a' := ?_) #[true, true, true, true, true, true, true, true, true, true, true, true, true, true, false, true, true, false, false, false, false, false, false] rfl rfl (any_of HT_.out (by kernel_rfl)) (fun _ _ _ h => h) (Or.inl ⟨by rfl, ?_⟩) ?_ ?_
                           rotate_left
                           ·intro w'
                            go_simp
                            with_reducible rfl
                           rotate_left
                           ·simp only [Act.put, List.setIfInBounds_toArray, List.set_cons_zero, List.set_cons_succ, i64_w, i32_w]
                            rfl
                           refine pure_ (i := 17) (N := some 104) (v := ?_) (a' := ?_) #[true, true, true, true, true, true, true, true, true, true, true, true, true, true, false, true, true, true, false, false, false, false, false] rfl rfl (any_of HT_.out (by kernel_rfl)) (fun _ _ _ h => h) (Or.inl ⟨by rfl, ?_⟩) ?_ ?_
                           rotate_left
                           ·intro w'
                            go_simp
                            with_reducible rfl
                           rotate_left
                           ·simp only [Act.put, List.setIfInBounds_toArray, List.set_cons_zero, List.set_cons_succ, i64_w, i32_w]
                            rfl
                           refine take_ (i := 14) (N := some 101) (v := ?_) (a' := ?_) #[true, true, true, true, true, true, true, true, true, true, true, true, true, true, true, true, true, true, false, false, false, false, false] rfl rfl (take_ofW HT_.out HW_.out (by kernel_rfl)) (fun _ _ _ h => h) (Or.inl ⟨by rfl, ?_⟩) hHeld ?_ ?_
                           rotate_left
                           ·intro w' s0
                            go_simp
                            with_reducible rfl
                           rotate_left
                           ·simp only [Act.put, List.setIfInBounds_toArray, List.set_cons_zero, List.set_cons_succ, i64_w, i32_w]
                            rfl
                           refine take_ (i := 18) (N := some 105) (v := ?_) (a' := ?_) #[true, true, true, true, true, true, true, true, true, true, true, true, true, true, true, true, true, true, true, false, false, false, false] rfl rfl (take_ofW HT_.out HW_.out (by kernel_rfl)) (fun _ _ _ h => h) (Or.inl ⟨by rfl, ?_⟩) hHeld ?_ ?_
                           rotate_left
                           ·intro w' s0
                            go_simp
                            with_reducible rfl
                           rotate_left
                           ·simp only [Act.put, List.setIfInBounds_toArray, List.set_cons_zero, List.set_cons_succ, i64_w, i32_w]
                            rfl
                           refine one_ (i := 19) (N := some 106) #[true, true, true, true, true, true, true, true, true, true, true, true, true, true, true, true, true, true, true, true, false, false, false] rfl rfl (one_of HT_.out (by kernel_rfl)) (by decide) (fun K hK => ?_)
                           refine goes_ Tryz.func23 (by kernel_rfl) rfl #[.int .u8 (bt a0 x53_2), .int .u8 (bt a1 (ji61))] (by rfl) rfl rfl (by (try simp only [List.map_toArray, List.map_cons, List.map_nil]); first | done | (simp only [hji61]; rfl) | rfl | (simp only [List.length_drop, List.length_take]; rfl)) ?_
                           with_reducible refine (goods_fits.calls (bt a0 x53_2) (bt a1 (ji61)) t218 _ A69.out).mono ?_
                           rintro e w' ⟨rfl, ⟨nd, rfl⟩⟩
                           refine ⟨_, rfl, ?_⟩
                           have p72 : 0 ≤ (x62_3 : Int) := of_decide_eq_true (by first | (with_reducible assumption) | assumption)
                           have q72 : (x62_3 : Int) < ((x10_3.length : Int) : Int) := of_decide_eq_true (by first | (with_reducible assumption) | assumption)
                           obtain ⟨go72, co72, eo72, gb72, gl72, cl72, HG72⟩ := Kd.R_form HO_10.out (by omega)
                           (first | cases eo72 | (injection eo72 with ea_ en_ ec_; (first | subst ea_ | (injection ea_ with ea_; subst ea_)); subst ec_; clear en_))
                           have GB72 := Aside0.mk gb72
                           have GG72 := Aside0.mk HG72
                           clear gb72 gl72 HG72
                           obtain ⟨hx72_0, hf72_0⟩ := Kd.R_celln false HO_10.out (x62_3 : Int) p72 q72
                           replace p72 := eq_true p72
                           replace q72 := eq_true q72
                           have HP74 := Kd.R_putn HO_10.out (x62_3 : Int) t218
                           rw [← Ny219.out] at HP74
                           have HQ74 := Aside0.mk HP74
                           clear HP74
                           refine hK.out _ _ (hHeld) (fun hHeld => ?_)
                           clear hK K
                           refine norm_ (a' := ?_) ?_ ?_
                           rotate_left
                           ·show Act.put _ (some 106) _ = _
                            simp only [Act.put, List.setIfInBounds_toArray, List.set_cons_zero, List.set_cons_succ, i64_w, i32_w]
                            rfl
                           refine pure_ (i := 20) (N := some 107) (v := ?_) (a' := ?_) #[true, true, true, true, true, true, true, true, true, true, true, true, true, true, true, true, true, true, true, true, true, false, false] rfl rfl (any_of HT_.out (by kernel_rfl)) (fun _ _ _ h => h) (Or.inl ⟨by rfl, ?_⟩) ?_ ?_
                           rotate_left
                           ·intro w'
                            go_simp
                            with_reducible rfl
                           rotate_left
                           ·simp only [Act.put, List.setIfInBounds_toArray, List.set_cons_zero, List.set_cons_succ, i64_w, i32_w]
                            rfl
                           refine pure_ (i := 21) (N := some 108) (v := ?_) (a' := ?_) #[true, true, true, true, true, true, true, true, true, true, true, true, true, true, true, true, true, true, true, true, true, true, false] rfl rfl (any_of HT_.out (by kernel_rfl)) (fun _ _ _ h => h) (Or.inl ⟨by rfl, ?_⟩) ?_ ?_
                           rotate_left
                           ·intro w'
                            go_simp
                            with_reducible rfl
                           rotate_left
                           ·simp only [Act.put, List.setIfInBounds_toArray, List.set_cons_zero, List.set_cons_succ, i64_w, i32_w]
                            rfl
                           refine last_ (i := 22) (N := none) #[true, true, true, true, true, true, true, true, true, true, true, true, true, true, true, true, true, true, true, true, true, true, true] rfl rfl (one_of HT_.out (by kernel_rfl)) (by decide) (fun K hK => ?_)
                           refine skip_ (w1 := ?_) (by rfl) rfl ?_ ?_
                           rotate_left
                           ·go_simp
                            rfl
                           refine hK.out _ _ ?_
                           clear hK K
                           refine done_ (done_of HT_.out (by kernel_rfl)) ?_
                           try go_wp2
                           go_roundg k3
                           case measure => have := HK1.out; have := HK2.out; have := HK3.out; omega
                           case rel => exact ⟨(y219), (wrap64 (x62_3 + 1)), (by first | rfl | (simp; done) | (simp [*]; done)), H', ⟨by have := HK1.out; have := HK2.out; have := HK3.out; omega⟩, ⟨by (with_reducible repeat (first | apply Kd.R_alloc | apply Kd.R_drewN | apply Kd.R_drew)); exact Kd.R_mono (Kd.R_far (p := ⟨go72, (x62_3 : Int).toNat, none⟩) (Kd.R_mono HO_8.out (fun k_ hk => (⟨hk, fun e_ => hk (by rw [e_]; rfl)⟩ : _ ∧ k_ ≠ go72))) (fun _ hk => hk.2) (.bool t218)) (fun _ hk => hk.1)⟩, ⟨by (with_reducible repeat (first | apply Kd.R_alloc | apply Kd.R_drewN | apply Kd.R_drew)); exact HQ74.out⟩, ⟨by repeat (first | (with_reducible first | exact HB.out | apply below_alloc | apply pw_below_drewN | apply below_drew1 | refine below_set ?_ GB72.out) | exact HB.out)⟩⟩
                          ·rw [if_neg c71] at H
                           exact absurd H (by simp)
                         ·rw [if_neg c70] at H
                          exact absurd H (by simp)
                        ·rw [if_neg c67] at H
                         exact absurd H (by simp)
                       ·replace c65 := Bool.eq_false_iff.mpr c65
                        subst c65
                        have H1 : (if 0 ≤ x62_3 then (if x62_3 < (x10_3.length : Int) then (goods_Match.l2 k3 a0 a1 x8_2 x53_2 (x10_3.set (x62_3 : Int).toNat false) (a0.size : Int) x53_2 (x8_2.length : Int) (wrap64 (x62_3 + 1))) else (none)) else (none)) = some (r1, r2) := by rw [if_neg (show ¬ (false = true) by decide)] at H; exact H
                        clear H
                        have H := H1
                        clear H1
                        by_cases c75 : 0 ≤ x62_3
                        ·rw [if_pos c75] at H
                         have c75b0 : decide (0 ≤ x62_3) = true := decide_eq_true c75
                         clear c75
                         by_cases c76 : x62_3 < (x10_3.length : Int)
                         ·rw [if_pos c76] at H
                          have c76b0 : decide (x62_3 < (x10_3.length : Int)) = true := decide_eq_true c76
                          clear c76
                          obtain ⟨y220, hy220⟩ : ∃ y_ : List Bool, y_ = (x10_3.set (x62_3 : Int).toNat false) := ⟨_, rfl⟩
                          replace H : (goods_Match.l2 k3 a0 a1 x8_2 x53_2 y220 (a0.size : Int) x53_2 (x8_2.length : Int) (wrap64 (x62_3 + 1))) = some (r1, r2) := by first | (rw [hy220]; with_reducible exact H) | (have H2_ := (Option.bind_some _ _).symm.trans H; rw [hy220]; with_reducible exact H2_) | (have H2_ := (Option.bind_some _ _).symm.trans H; with_reducible exact H2_) | with_reducible exact H | (rw [hy220]; exact H) | exact H
                          have Ny220 := Aside0.mk hy220
                          clear hy220
                          have H' := Aside0.mk H
                          clear H
                          have p37 : 0 ≤ (x53_2 : Int) := of_decide_eq_true (by first | (with_reducible assumption) | assumption)
                          have q37 : x53_2 < (a0.size : Int) := of_decide_eq_true (by first | (with_reducible assumption) | assumption)
                          have hx37 := bt_at a0 x53_2
                          replace p37 := eq_true p37
                          replace q37 := eq_true q37
                          try go_wp2
                          have n0_ := Aside0.mk (Kd.R_drew HO_8.out)
                          have n1_ := Aside0.mk (Kd.R_drew HO_10.out)
                          have n2_ := Aside0.mk (below_drew1 HB.out)
                          clear HO_8
                          clear HO_10
                          clear HB
                          have HO_8 := n0_
                          have HO_10 := n1_
                          have HB := n2_
                          clear n0_ n1_ n2_
                          have p217 : 0 ≤ ((ji61) : Int) := of_decide_eq_true (by first | (with_reducible assumption) | assumption)
                          have q217 : (ji61) < (x8_2.length : Int) := of_decide_eq_true (by first | (with_reducible assumption) | assumption)
                          obtain ⟨ad217, e217, hx217_0⟩ := Kd.at_bool (Kd.R_reads' HO_8.out).2.2 (ji61) p217 q217
                          (try rw [← Nbq64.out] at hx217_0)
                          cases e217
                          replace p217 := eq_true p217
                          replace q217 := eq_true q217
                          have p77 : 0 ≤ (x62_3 : Int) := of_decide_eq_true (by first | (with_reducible assumption) | assumption)
                          have q77 : (x62_3 : Int) < ((x10_3.length : Int) : Int) := of_decide_eq_true (by first | (with_reducible assumption) | assumption)
                          obtain ⟨go77, co77, eo77, gb77, gl77, cl77, HG77⟩ := Kd.R_form HO_10.out (by omega)
                          (first | cases eo77 | (injection eo77 with ea_ en_ ec_; (first | subst ea_ | (injection ea_ with ea_; subst ea_)); subst ec_; clear en_))
                          have GB77 := Aside0.mk gb77
                          have GG77 := Aside0.mk HG77
                          clear gb77 gl77 HG77
                          obtain ⟨hx77_0, hf77_0⟩ := Kd.R_celln false HO_10.out (x62_3 : Int) p77 q77
                          replace p77 := eq_true p77
                          replace q77 := eq_true q77
                          have HP79 := Kd.R_putn HO_10.out (x62_3 : Int) false
                          rw [← Ny220.out] at HP79
                          have HQ79 := Aside0.mk HP79
                          clear HP79
                          refine start_ (n := 23) (S := fun w' => w'.cell? (ad217.add ((ji61)).toNat) = some (.bool false)) (ds := [22]) #[false, false, false, false, false, false, false, false, false, false, false, false, false, false, false, false, false, false, false, false, false, false, false] (by kernel_rfl) rfl rfl (hx217_0) (fun hHeld => ?_); refine with_tabW goods_Match.tab23 goods_Match.bits23 (fun HT_ HW_ => ?_)
                          generalize wr.drew = w78 at HO_8 HO_10 HB GG77 HQ79 hf77_0 hx217_0 hx77_0 hHeld ⊢
                          refine pure_ (i := 0) (N := some 87) (v := ?_) (a' := ?_) #[true, false, false, false, false, false, false, false, false, false, false, false, false, false, false, false, false, false, false, false, false, false, false] rfl rfl (any_of HT_.out (by kernel_rfl)) (fun _ _ _ h => h) (Or.inl ⟨by rfl, ?_⟩) ?_ ?_
                          rotate_left
                          ·intro w'
                           go_simp
                           with_reducible rfl
                          rotate_left
                          ·simp only [Act.put, List.setIfInBounds_toArray, List.set_cons_zero, List.set_cons_succ, i64_w, i32_w]
                           rfl
                          refine pure_ (i := 1) (N := some 88) (v := ?_) (a' := ?_) #[true, true, false, false, false, false, false, false, false, false, false, false, false, false, false, false, false, false, false, false, false, false, false] rfl rfl (any_of HT_.out (by kernel_rfl)) (fun _ _ _ h => h) (Or.inl ⟨by rfl, ?_⟩) ?_ ?_
                          rotate_left
                          ·intro w'
                           go_simp
                           with_reducible rfl
                          rotate_left
                          ·simp only [Act.put, List.setIfInBounds_toArray, List.set_cons_zero, List.set_cons_succ, i64_w, i32_w]
                           rfl
                          refine pure_ (i := 2) (N := some 89) (v := ?_) (a' := ?_) #[true, true, true, false, false, false, false, false, false, false, false, false, false, false, false, false, false, false, false, false, false, false, false] rfl rfl (any_of HT_.out (by kernel_rfl)) (fun _ _ _ h => h) (Or.inl ⟨by rfl, ?_⟩) ?_ ?_
                          rotate_left
                          ·intro w'
                           go_simp
                           with_reducible rfl
                          rotate_left
                          ·simp only [Act.put, List.setIfInBounds_toArray, List.set_cons_zero, List.set_cons_succ, i64_w, i32_w]
                           rfl
                          refine pure_ (i := 3) (N := some 90) (v := ?_) (a' := ?_) #[true, true, true, true, false, false, false, false, false, false, false, false, false, false, false, false, false, false, false, false, false, false, false] rfl rfl (any_of HT_.out (by kernel_rfl)) (fun _ _ _ h => h) (Or.inl ⟨by rfl, ?_⟩) ?_ ?_
                          rotate_left
                          ·intro w'
                           go_simp
                           with_reducible rfl
                          rotate_left
                          ·simp only [Act.put, List.setIfInBounds_toArray, List.set_cons_zero, List.set_cons_succ, i64_w, i32_w]
                           rfl
                          refine pure_ (i := 4) (N := some 91) (v := ?_) (a' := ?_) #[true, true, true, true, true, false, false, false, false, false, false, false, false, false, false, false, false, false, false, false, false, false, false] rfl rfl (any_of HT_.out (by kernel_rfl)) (fun _ _ _ h => h) (Or.inl ⟨by rfl, ?_⟩) ?_ ?_
                          rotate_left
                          ·intro w'
                           go_simp
                           with_reducible rfl
                          rotate_left
                          ·simp only [Act.put, List.setIfInBounds_toArray, List.set_cons_zero, List.set_cons_succ, i64_w, i32_w]
                           rfl
                          refine pure_ (i := 5) (N := some 92) (v := ?_) (a' := ?_) #[true, true, true, true, true, true, false, false, false, false, false, false, false, false, false, false, false, false, false, false, false, false, false] rfl rfl (any_of HT_.out (by kernel_rfl)) (fun _ _ _ h => h) (Or.inl ⟨by rfl, ?_⟩) ?_ ?_
                          rotate_left
                          ·intro w'
                           go_simp
                           with_reducible rfl
                          rotate_left
                          ·simp only [Act.put, List.setIfInBounds_toArray, List.set_cons_zero, List.set_cons_succ, i64_w, i32_w]
                           rfl
                          refine pure_ (i := 6) (N := some 93) (v := ?_) (a' := ?_) #[true, true, true, true, true, true, true, false, false, false, false, false, false, false, false, false, false, false, false, false, false, false, false] rfl rfl (any_of HT_.out (by kernel_rfl)) (fun _ _ _ h => h) (Or.inl ⟨by rfl, ?_⟩) ?_ ?_
                          rotate_left
                          ·intro w'
                           go_simp
                           with_reducible rfl
                          rotate_left
                          ·simp only [Act.put, List.setIfInBounds_toArray, List.set_cons_zero, List.set_cons_succ, i64_w, i32_w]
                           rfl
                          refine pure_ (i := 7) (N := some 94) (v := ?_) (a' := ?_) #[true, true, true, true, true, true, true, true, false, false, false, false, false, false, false, false, false, false, false, false, false, false, false] rfl rfl (any_of HT_.out (by kernel_rfl)) (fun _ _ _ h => h) (Or.inl ⟨by rfl, ?_⟩) ?_ ?_
                          rotate_left
                          ·intro w'
                           go_simp
                           with_reducible rfl
                          rotate_left
                          ·simp only [Act.put, List.setIfInBounds_toArray, List.set_cons_zero, List.set_cons_succ, i64_w, i32_w]
                           rfl
                          refine pure_ (i := 8) (N := some 95) (v := ?_) (a' := ?_) #[true, true, true, true, true, true, true, true, true, false, false, false, false, false, false, false, false, false, false, false, false, false, false] rfl rfl (any_of HT_.out (by kernel_rfl)) (fun _ _ _ h => h) (Or.inl ⟨by rfl, ?_⟩) ?_ ?_
                          rotate_left
                          ·intro w'
                           go_simp
                           with_reducible rfl
                          rotate_left
                          ·simp only [Act.put, List.setIfInBounds_toArray, List.set_cons_zero, List.set_cons_succ, i64_w, i32_w]
                           rfl
                          refine take_ (i := 9) (N := some 96) (v := ?_) (a' := ?_) #[true, true, true, true, true, true, true, true, true, true, false, false, false, false, false, false, false, false, false, false, false, false, false] rfl rfl (take_ofW HT_.out HW_.out (by kernel_rfl)) (fun _ _ _ h => h) (Or.inl ⟨by rfl, ?_⟩) hHeld ?_ ?_
                          rotate_left
                          ·intro w' s0
                           go_simp
                           with_reducible rfl
                          rotate_left
                          ·simp only [Act.put, List.setIfInBounds_toArray, List.set_cons_zero, List.set_cons_succ, i64_w, i32_w]
                           rfl
                          refine pure_ (i := 10) (N := some 97) (v := ?_) (a' := ?_) #[true, true, true, true, true, true, true, true, true, true, true, false, false, false, false, false, false, false, false, false, false, false, false] rfl rfl (any_of HT_.out (by kernel_rfl)) (fun _ _ _ h => h) (Or.inl ⟨by rfl, ?_⟩) ?_ ?_
                          rotate_left
                          ·intro w'
                           go_simp
                           with_reducible rfl
                          rotate_left
                          ·simp only [Act.put, List.setIfInBounds_toArray, List.set_cons_zero, List.set_cons_succ, i64_w, i32_w]
                           rfl
                          refine pure_ (i := 11) (N := some 98) (v := ?_) (a' := ?_) #[true, true, true, true, true, true, true, true, true, true, true, true, false, false, false, false, false, false, false, false, false, false, false] rfl rfl (any_of HT_.out (by kernel_rfl)) (fun _ _ _ h => h) (Or.inl ⟨by rfl, ?_⟩) ?_ ?_
                          rotate_left
                          ·intro w'
                           go_simp
                           with_reducible rfl
                          rotate_left
                          ·simp only [Act.put, List.setIfInBounds_toArray, List.set_cons_zero, List.set_cons_succ, i64_w, i32_w]
                           rfl
                          refine pure_ (i := 12) (N := some 99) (v := undef) (a' := ?_) #[true, true, true, true, true, true, true, true, true, true, true, true, true, false, false, false, false, false, false, false, false, false, false] rfl rfl (any_of HT_.out (by kernel_rfl)) (fun _ _ _ h => h) (Or.inr ⟨by rfl, rfl⟩) ?_ ?_
                          rotate_left
                          ·simp only [Act.put, List.setIfInBounds_toArray, List.set_cons_zero, List.set_cons_succ, i64_w, i32_w]
                           rfl
                          refine pure_ (i := 13) (N := some 100) (v := undef) (a' := ?_) #[true, true, true, true, true, true, true, true, true, true, true, true, true, true, false, false, false, false, false, false, false, false, false] rfl rfl (any_of HT_.out (by kernel_rfl)) (fun _ _ _ h => h) (Or.inr ⟨by rfl, rfl⟩) ?_ ?_
                          rotate_left
                          ·simp only [Act.put, List.setIfInBounds_toArray, List.set_cons_zero, List.set_cons_succ, i64_w, i32_w]
                           rfl
                          refine pure_ (i := 14) (N := some 101) (v := undef) (a' := ?_) #[true, true, true, true, true, true, true, true, true, true, true, true, true, true, true, false, false, false, false, false, false, false, false] rfl rfl (any_of HT_.out (by kernel_rfl)) (fun _ _ _ h => h) (Or.inr ⟨by rfl, rfl⟩) ?_ ?_
                          rotate_left
                          ·simp only [Act.put, List.setIfInBounds_toArray, List.set_cons_zero, List.set_cons_succ, i64_w, i32_w]
                           rfl
                          refine pure_ (i := 15) (N := some 102) (v := undef) (a' := ?_) #[true, true, true, true, true, true, true, true, true, true, true, true, true, true, true, true, false, false, false, false, false, false, false] rfl rfl (any_of HT_.out (by kernel_rfl)) (fun _ _ _ h => h) (Or.inr ⟨by rfl, rfl⟩) ?_ ?_
                          rotate_left
                          ·simp only [Act.put, List.setIfInBounds_toArray, List.set_cons_zero, List.set_cons_succ, i64_w, i32_w]
                           rfl
                          refine pure_ (i := 16) (N := some 103) (v := undef) (a' := ?_) #[true, true, true, true, true, true, true, true, true, true, true, true, true, true, true, true, true, false, false, false, false, false, false] rfl rfl (any_of HT_.out (by kernel_rfl)) (fun _ _ _ h => h) (Or.inr ⟨by rfl, rfl⟩) ?_ ?_
                          rotate_left
                          ·simp only [Act.put, List.setIfInBounds_toArray, List.set_cons_zero, List.set_cons_succ, i64_w, i32_w]
                           rfl
                          refine pure_ (i := 17) (N := some 104) (v := undef) (a' := ?_) #[true, true, true, true, true, true, true, true, true, true, true, true, true, true, true, true, true, true, false, false, false, false, false] rfl rfl (any_of HT_.out (by kernel_rfl)) (fun _ _ _ h => h) (Or.inr ⟨by rfl, rfl⟩) ?_ ?_
                          rotate_left
                          ·simp only [Act.put, List.setIfInBounds_toArray, List.set_cons_zero, List.set_cons_succ, i64_w, i32_w]
                           rfl
                          refine pure_ (i := 18) (N := some 105) (v := undef) (a' := ?_) #[true, true, true, true, true, true, true, true, true, true, true, true, true, true, true, true, true, true, true, false, false, false, false] rfl rfl (any_of HT_.out (by kernel_rfl)) (fun _ _ _ h => h) (Or.inr ⟨by rfl, rfl⟩) ?_ ?_
                          rotate_left
                          ·simp only [Act.put, List.setIfInBounds_toArray, List.set_cons_zero, List.set_cons_succ, i64_w, i32_w]
                           rfl
                          refine pure_ (i := 19) (N := some 106) (v := undef) (a' := ?_) #[true, true, true, true, true, true, true, true, true, true, true, true, true, true, true, true, true, true, true, true, false, false, false] rfl rfl (any_of HT_.out (by kernel_rfl)) (fun _ _ _ h => h) (Or.inr ⟨by rfl, rfl⟩) ?_ ?_
                          rotate_left
                          ·simp only [Act.put, List.setIfInBounds_toArray, List.set_cons_zero, List.set_cons_succ, i64_w, i32_w]
                           rfl
                          refine pure_ (i := 20) (N := some 107) (v := ?_) (a' := ?_) #[true, true, true, true, true, true, true, true, true, true, true, true, true, true, true, true, true, true, true, true, true, false, false] rfl rfl (any_of HT_.out (by kernel_rfl)) (fun _ _ _ h => h) (Or.inl ⟨by rfl, ?_⟩) ?_ ?_
                          rotate_left
                          ·intro w'
                           go_simp
                           with_reducible rfl
                          rotate_left
                          ·simp only [Act.put, List.setIfInBounds_toArray, List.set_cons_zero, List.set_cons_succ, i64_w, i32_w]
                           rfl
                          refine pure_ (i := 21) (N := some 108) (v := ?_) (a' := ?_) #[true, true, true, true, true, true, true, true, true, true, true, true, true, true, true, true, true, true, true, true, true, true, false] rfl rfl (any_of HT_.out (by kernel_rfl)) (fun _ _ _ h => h) (Or.inl ⟨by rfl, ?_⟩) ?_ ?_
                          rotate_left
                          ·intro w'
                           go_simp
                           with_reducible rfl
                          rotate_left
                          ·simp only [Act.put, List.setIfInBounds_toArray, List.set_cons_zero, List.set_cons_succ, i64_w, i32_w]
                           rfl
                          refine last_ (i := 22) (N := none) #[true, true, true, true, true, true, true, true, true, true, true, true, true, true, true, true, true, true, true, true, true, true, true] rfl rfl (one_of HT_.out (by kernel_rfl)) (by decide) (fun K hK => ?_)
                          refine skip_ (w1 := ?_) (by rfl) rfl ?_ ?_
                          rotate_left
                          ·go_simp
                           rfl
                          refine hK.out _ _ ?_
                          clear hK K
                          refine done_ (done_of HT_.out (by kernel_rfl)) ?_
                          try go_wp2
                          go_roundg k3
                          case measure => have := HK1.out; have := HK2.out; have := HK3.out; omega
                          case rel => exact ⟨(y220), (wrap64 (x62_3 + 1)), (by first | rfl | (simp; done) | (simp [*]; done)), H', ⟨by have := HK1.out; have := HK2.out; have := HK3.out; omega⟩, ⟨by (with_reducible repeat (first | apply Kd.R_alloc | apply Kd.R_drewN | apply Kd.R_drew)); exact Kd.R_mono (Kd.R_far (p := ⟨go77, (x62_3 : Int).toNat, none⟩) (Kd.R_mono HO_8.out (fun k_ hk => (⟨hk, fun e_ => hk (by rw [e_]; rfl)⟩ : _ ∧ k_ ≠ go77))) (fun _ hk => hk.2) (.bool false)) (fun _ hk => hk.1)⟩, ⟨by (with_reducible repeat (first | apply Kd.R_alloc | apply Kd.R_drewN | apply Kd.R_drew)); exact HQ79.out⟩, ⟨by repeat (first | (with_reducible first | exact HB.out | apply below_alloc | apply pw_below_drewN | apply below_drew1 | refine below_set ?_ GB77.out) | exact HB.out)⟩⟩
                         ·rw [if_neg c76] at H
                          exact absurd H (by simp)
                        ·rw [if_neg c75] at H
                         exact absurd H (by simp)
                      ·rw [if_neg c63] at H
                       exact absurd H (by simp)
                     ·rw [if_neg c62] at H
                      exact absurd H (by simp)
                    ·rw [if_neg c60] at H
                     have c60b0 : decide (0 < x62_3) = false := decide_eq_false c60
                     clear c60
                     by_cases c80 : 0 ≤ x62_3
                     ·rw [if_pos c80] at H
                      have c80b0 : decide (0 ≤ x62_3) = true := decide_eq_true c80
                      clear c80
                      by_cases c81 : x62_3 < (x10_3.length : Int)
                      ·rw [if_pos c81] at H
                       have c81b0 : decide (x62_3 < (x10_3.length : Int)) = true := decide_eq_true c81
                       clear c81
                       obtain ⟨y221, hy221⟩ : ∃ y_ : List Bool, y_ = (x10_3.set (x62_3 : Int).toNat false) := ⟨_, rfl⟩
                       replace H : (goods_Match.l2 k3 a0 a1 x8_2 x53_2 y221 (a0.size : Int) x53_2 (x8_2.length : Int) (wrap64 (x62_3 + 1))) = some (r1, r2) := by first | (rw [hy221]; with_reducible exact H) | (have H2_ := (Option.bind_some _ _).symm.trans H; rw [hy221]; with_reducible exact H2_) | (have H2_ := (Option.bind_some _ _).symm.trans H; with_reducible exact H2_) | with_reducible exact H | (rw [hy221]; exact H) | exact H
                       have Ny221 := Aside0.mk hy221
                       clear hy221
                       have H' := Aside0.mk H
                       clear H
                       have p37 : 0 ≤ (x53_2 : Int) := of_decide_eq_true (by first | (with_reducible assumption) | assumption)
                       have q37 : x53_2 < (a0.size : Int) := of_decide_eq_true (by first | (with_reducible assumption) | assumption)
                       have hx37 := bt_at a0 x53_2
                       replace p37 := eq_true p37
                       replace q37 := eq_true q37
                       try go_wp2
                       have n0_ := Aside0.mk (Kd.R_drew HO_8.out)
                       have n1_ := Aside0.mk (Kd.R_drew HO_10.out)
                       have n2_ := Aside0.mk (below_drew1 HB.out)
                       clear HO_8
                       clear HO_10
                       clear HB
                       have HO_8 := n0_
                       have HO_10 := n1_
                       have HB := n2_
                       clear n0_ n1_ n2_
                       have p82 : 0 ≤ (x62_3 : Int) := of_decide_eq_true (by first | (with_reducible assumption) | assumption)
                       have q82 : (x62_3 : Int) < ((x10_3.length : Int) : Int) := of_decide_eq_true (by first | (with_reducible assumption) | assumption)
                       obtain ⟨go82, co82, eo82, gb82, gl82, cl82, HG82⟩ := Kd.R_form HO_10.out (by omega)
                       (first | cases eo82 | (injection eo82 with ea_ en_ ec_; (first | subst ea_ | (injection ea_ with ea_; subst ea_)); subst ec_; clear en_))
                       have GB82 := Aside0.mk gb82
                       have GG82 := Aside0.mk HG82
                       clear gb82 gl82 HG82
                       obtain ⟨hx82_0, hf82_0⟩ := Kd.R_celln false HO_10.out (x62_3 : Int) p82 q82
                       replace p82 := eq_true p82
                       replace q82 := eq_true q82
                       have HP84 := Kd.R_putn HO_10.out (x62_3 : Int) false
                       rw [← Ny221.out] at HP84
                       have HQ84 := Aside0.mk HP84
                       clear HP84
                       refine start_ (n := 23) (S := fun w' => True) (ds := [22]) #[false, false, false, false, false, false, false, false, false, false, false, false, false, false, false, false, false, false, false, false, false, false, false] (by kernel_rfl) rfl rfl trivial (fun hHeld => ?_); refine with_tabW goods_Match.tab23 goods_Match.bits23 (fun HT_ HW_ => ?_)
                       generalize wr.drew = w83 at HO_8 HO_10 HB GG82 HQ84 hf82_0 hx82_0 hHeld ⊢
                       refine pure_ (i := 0) (N := some 87) (v := ?_) (a' := ?_) #[true, false, false, false, false, false, false, false, false, false, false, false, false, false, false, false, false, false, false, false, false, false, false] rfl rfl (any_of HT_.out (by kernel_rfl)) (fun _ _ _ h => h) (Or.inl ⟨by rfl, ?_⟩) ?_ ?_
                       rotate_left
                       ·intro w'
                        go_simp
                        with_reducible rfl
                       rotate_left
                       ·simp only [Act.put, List.setIfInBounds_toArray, List.set_cons_zero, List.set_cons_succ, i64_w, i32_w]
                        rfl
                       refine pure_ (i := 1) (N := some 88) (v := ?_) (a' := ?_) #[true, true, false, false, false, false, false, false, false, false, false, false, false, false, false, false, false, false, false, false, false, false, false] rfl rfl (any_of HT_.out (by kernel_rfl)) (fun _ _ _ h => h) (Or.inl ⟨by rfl, ?_⟩) ?_ ?_
                       rotate_left
                       ·intro w'
                        go_simp
                        with_reducible rfl
                       rotate_left
                       ·simp only [Act.put, List.setIfInBounds_toArray, List.set_cons_zero, List.set_cons_succ, i64_w, i32_w]
                        rfl
                       refine pure_ (i := 2) (N := some 89) (v := ?_) (a' := ?_) #[true, true, true, false, false, false, false, false, false, false, false, false, false, false, false, false, false, false, false, false, false, false, false] rfl rfl (any_of HT_.out (by kernel_rfl)) (fun _ _ _ h => h) (Or.inl ⟨by rfl, ?_⟩) ?_ ?_
                       rotate_left
                       ·intro w'
                        go_simp
                        with_reducible rfl
                       rotate_left
                       ·simp only [Act.put, List.setIfInBounds_toArray, List.set_cons_zero, List.set_cons_succ, i64_w, i32_w]
                        rfl
                       refine pure_ (i := 3) (N := some 90) (v := ?_) (a' := ?_) #[true, true, true, true, false, false, false, false, false, false, false, false, false, false, false, false, false, false, false, false, false, false, false] rfl rfl (any_of HT_.out (by kernel_rfl)) (fun _ _ _ h => h) (Or.inl ⟨by rfl, ?_⟩) ?_ ?_
                       rotate_left
                       ·intro w'
                        go_simp
                        with_reducible rfl
                       rotate_left
                       ·simp only [Act.put, List.setIfInBounds_toArray, List.set_cons_zero, List.set_cons_succ, i64_w, i32_w]
                        rfl
                       refine pure_ (i := 4) (N := some 91) (v := ?_) (a' := ?_) #[true, true, true, true, true, false, false, false, false, false, false, false, false, false, false, false, false, false, false, false, false, false, false] rfl rfl (any_of HT_.out (by kernel_rfl)) (fun _ _ _ h => h) (Or.inl ⟨by rfl, ?_⟩) ?_ ?_
                       rotate_left
                       ·intro w'
                        go_simp
                        with_reducible rfl
                       rotate_left
                       ·simp only [Act.put, List.setIfInBounds_toArray, List.set_cons_zero, List.set_cons_succ, i64_w, i32_w]
                        rfl
                       refine pure_ (i := 5) (N := some 92) (v := undef) (a' := ?_) #[true, true, true, true, true, true, false, false, false, false, false, false, false, false, false, false, false, false, false, false, false, false, false] rfl rfl (any_of HT_.out (by kernel_rfl)) (fun _ _ _ h => h) (Or.inr ⟨by rfl, rfl⟩) ?_ ?_
                       rotate_left
                       ·simp only [Act.put, List.setIfInBounds_toArray, List.set_cons_zero, List.set_cons_succ, i64_w, i32_w]
                        rfl
                       refine pure_ (i := 6) (N := some 93) (v := undef) (a' := ?_) #[true, true, true, true, true, true, true, false, false, false, false, false, false, false, false, false, false, false, false, false, false, false, false] rfl rfl (any_of HT_.out (by kernel_rfl)) (fun _ _ _ h => h) (Or.inr ⟨by rfl, rfl⟩) ?_ ?_
                       rotate_left
                       ·simp only [Act.put, List.setIfInBounds_toArray, List.set_cons_zero, List.set_cons_succ, i64_w, i32_w]
                        rfl
                       refine pure_ (i := 7) (N := some 94) (v := undef) (a' := ?_) #[true, true, true, true, true, true, true, true, false, false, false, false, false, false, false, false, false, false, false, false, false, false, false] rfl rfl (any_of HT_.out (by kernel_rfl)) (fun _ _ _ h => h) (Or.inr ⟨by rfl, rfl⟩) ?_ ?_
                       rotate_left
                       ·simp only [Act.put, List.setIfInBounds_toArray, List.set_cons_zero, List.set_cons_succ, i64_w, i32_w]
                        rfl
                       refine pure_ (i := 8) (N := some 95) (v := undef) (a' := ?_) #[true, true, true, true, true, true, true, true, true, false, false, false, false, false, false, false, false, false, false, false, false, false, false] rfl rfl (any_of HT_.out (by kernel_rfl)) (fun _ _ _ h => h) (Or.inr ⟨by rfl, rfl⟩) ?_ ?_
                       rotate_left
                       ·simp only [Act.put, List.setIfInBounds_toArray, List.set_cons_zero, List.set_cons_succ, i64_w, i32_w]
                        rfl
                       refine pure_ (i := 9) (N := some 96) (v := undef) (a' := ?_) #[true, true, true, true, true, true, true, true, true, true, false, false, false, false, false, false, false, false, false, false, false, false, false] rfl rfl (any_of HT_.out (by kernel_rfl)) (fun _ _ _ h => h) (Or.inr ⟨by rfl, rfl⟩) ?_ ?_
                       rotate_left
                       ·simp only [Act.put, List.setIfInBounds_toArray, List.set_cons_zero, List.set_cons_succ, i64_w, i32_w]
                        rfl
                       refine pure_ (i := 10) (N := some 97) (v := ?_) (a' := ?_) #[true, true, true, true, true, true, true, true, true, true, true, false, false, false, false, false, false, false, false, false, false, false, false] rfl rfl (any_of HT_.out (by kernel_rfl)) (fun _ _ _ h => h) (Or.inl ⟨by rfl, ?_⟩) ?_ ?_
                       rotate_left
                       ·intro w'
                        go_simp
                        with_reducible rfl
                       rotate_left
                       ·simp only [Act.put, List.setIfInBounds_toArray, List.set_cons_zero, List.set_cons_succ, i64_w, i32_w]
                        rfl
                       refine pure_ (i := 11) (N := some 98) (v := ?_) (a' := ?_) #[true, true, true, true, true, true, true, true, true, true, true, true, false, false, false, false, false, false, false, false, false, false, false] rfl rfl (any_of HT_.out (by kernel_rfl)) (fun _ _ _ h => h) (Or.inl ⟨by rfl, ?_⟩) ?_ ?_
                       rotate_left
                       ·intro w'
                        go_simp
                        with_reducible rfl
                       rotate_left
                       ·simp only [Act.put, List.setIfInBounds_toArray, List.set_cons_zero, List.set_cons_succ, i64_w, i32_w]
                        rfl
                       refine pure_ (i := 12) (N := some 99) (v := undef) (a' := ?_) #[true, true, true, true, true, true, true, true, true, true, true, true, true, false, false, false, false, false, false, false, false, false, false] rfl rfl (any_of HT_.out (by kernel_rfl)) (fun _ _ _ h => h) (Or.inr ⟨by rfl, rfl⟩) ?_ ?_
                       rotate_left
                       ·simp only [Act.put, List.setIfInBounds_toArray, List.set_cons_zero, List.set_cons_succ, i64_w, i32_w]
                        rfl
                       refine pure_ (i := 13) (N := some 100) (v := undef) (a' := ?_) #[true, true, true, true, true, true, true, true, true, true, true, true, true, true, false, false, false, false, false, false, false, false, false] rfl rfl (any_of HT_.out (by kernel_rfl)) (fun _ _ _ h => h) (Or.inr ⟨by rfl, rfl⟩) ?_ ?_
                       rotate_left
                       ·simp only [Act.put, List.setIfInBounds_toArray, List.set_cons_zero, List.set_cons_succ, i64_w, i32_w]
                        rfl
                       refine pure_ (i := 14) (N := some 101) (v := undef) (a' := ?_) #[true, true, true, true, true, true, true, true, true, true, true, true, true, true, true, false, false, false, false, false, false, false, false] rfl rfl (any_of HT_.out (by kernel_rfl)) (fun _ _ _ h => h) (Or.inr ⟨by rfl, rfl⟩) ?_ ?_
                       rotate_left
                       ·simp only [Act.put, List.setIfInBounds_toArray, List.set_cons_zero, List.set_cons_succ, i64_w, i32_w]
                        rfl
                       refine pure_ (i := 15) (N := some 102) (v := undef) (a' := ?_) #[true, true, true, true, true, true, true, true, true, true, true, true, true, true, true, true, false, false, false, false, false, false, false] rfl rfl (any_of HT_.out (by kernel_rfl)) (fun _ _ _ h => h) (Or.inr ⟨by rfl, rfl⟩) ?_ ?_
                       rotate_left
                       ·simp only [Act.put, List.setIfInBounds_toArray, List.set_cons_zero, List.set_cons_succ, i64_w, i32_w]
                        rfl
                       refine pure_ (i := 16) (N := some 103) (v := undef) (a' := ?_) #[true, true, true, true, true, true, true, true, true, true, true, true, true, true, true, true, true, false, false, false, false, false, false] rfl rfl (any_of HT_.out (by kernel_rfl)) (fun _ _ _ h => h) (Or.inr ⟨by rfl, rfl⟩) ?_ ?_
                       rotate_left
                       ·simp only [Act.put, List.setIfInBounds_toArray, List.set_cons_zero, List.set_cons_succ, i64_w, i32_w]
                        rfl
                       refine pure_ (i := 17) (N := some 104) (v := undef) (a' := ?_) #[true, true, true, true, true, true, true, true, true, true, true, true, true, true, true, true, true, true, false, false, false, false, false] rfl rfl (any_of HT_.out (by kernel_rfl)) (fun _ _ _ h => h) (Or.inr ⟨by rfl, rfl⟩) ?_ ?_
                       rotate_left
                       ·simp only [Act.put, List.setIfInBounds_toArray, List.set_cons_zero, List.set_cons_succ, i64_w, i32_w]
                        rfl
                       refine pure_ (i := 18) (N := some 105) (v := undef) (a' := ?_) #[true, true, true, true, true, true, true, true, true, true, true, true, true, true, true, true, true, true, true, false, false, false, false] rfl rfl (any_of HT_.out (by kernel_rfl)) (fun _ _ _ h => h) (Or.inr ⟨by rfl, rfl⟩) ?_ ?_
                       rotate_left
                       ·simp only [Act.put, List.setIfInBounds_toArray, List.set_cons_zero, List.set_cons_succ, i64_w, i32_w]
                        rfl
                       refine pure_ (i := 19) (N := some 106) (v := undef) (a' := ?_) #[true, true, true, true, true, true, true, true, true, true, true, true, true, true, true, true, true, true, true, true, false, false, false] rfl rfl (any_of HT_.out (by kernel_rfl)) (fun _ _ _ h => h) (Or.inr ⟨by rfl, rfl⟩) ?_ ?_
                       rotate_left
                       ·simp only [Act.put, List.setIfInBounds_toArray, List.set_cons_zero, List.set_cons_succ, i64_w, i32_w]
                        rfl
                       refine pure_ (i := 20) (N := some 107) (v := ?_) (a' := ?_) #[true, true, true, true, true, true, true, true, true, true, true, true, true, true, true, true, true, true, true, true, true, false, false] rfl rfl (any_of HT_.out (by kernel_rfl)) (fun _ _ _ h => h) (Or.inl ⟨by rfl, ?_⟩) ?_ ?_
                       rotate_left
                       ·intro w'
                        go_simp
                        with_reducible rfl
                       rotate_left
                       ·simp only [Act.put, List.setIfInBounds_toArray, List.set_cons_zero, List.set_cons_succ, i64_w, i32_w]
                        rfl
                       refine pure_ (i := 21) (N := some 108) (v := ?_) (a' := ?_) #[true, true, true, true, true, true, true, true, true, true, true, true, true, true, true, true, true, true, true, true, true, true, false] rfl rfl (any_of HT_.out (by kernel_rfl)) (fun _ _ _ h => h) (Or.inl ⟨by rfl, ?_⟩) ?_ ?_
                       rotate_left
                       ·intro w'
                        go_simp
                        with_reducible rfl
                       rotate_left
                       ·simp only [Act.put, List.setIfInBounds_toArray, List.set_cons_zero, List.set_cons_succ, i64_w, i32_w]
                        rfl
                       refine last_ (i := 22) (N := none) #[true, true, true, true, true, true, true, true, true, true, true, true, true, true, true, true, true, true, true, true, true, true, true] rfl rfl (one_of HT_.out (by kernel_rfl)) (by decide) (fun K hK => ?_)
                       refine skip_ (w1 := ?_) (by rfl) rfl ?_ ?_
                       rotate_left
                       ·go_simp
                        rfl
                       refine hK.out _ _ ?_
                       clear hK K
                       refine done_ (done_of HT_.out (by kernel_rfl)) ?_
                       try go_wp2
                       go_roundg k3
                       case measure => have := HK1.out; have := HK2.out; have := HK3.out; omega
                       case rel => exact ⟨(y221), (wrap64 (x62_3 + 1)), (by first | rfl | (simp; done) | (simp [*]; done)), H', ⟨by have := HK1.out; have := HK2.out; have := HK3.out; omega⟩, ⟨by (with_reducible repeat (first | apply Kd.R_alloc | apply Kd.R_drewN | apply Kd.R_drew)); exact Kd.R_mono (Kd.R_far (p := ⟨go82, (x62_3 : Int).toNat, none⟩) (Kd.R_mono HO_8.out (fun k_ hk => (⟨hk, fun e_ => hk (by rw [e_]; rfl)⟩ : _ ∧ k_ ≠ go82))) (fun _ hk => hk.2) (.bool false)) (fun _ hk => hk.1)⟩, ⟨by (with_reducible repeat (first | apply Kd.R_alloc | apply Kd.R_drewN | apply Kd.R_drew)); exact HQ84.out⟩, ⟨by repeat (first | (with_reducible first | exact HB.out | apply below_alloc | apply pw_below_drewN | apply below_drew1 | refine below_set ?_ GB82.out) | exact HB.out)⟩⟩
                      ·rw [if_neg c81] at H
                       exact absurd H (by simp)
                     ·rw [if_neg c80] at H
                      exact absurd H (by simp)
                  ·rw [if_neg c36] at H
                   exact absurd H (by simp)
                 ·rw [if_neg c35] at H
                  exact absurd H (by simp)
                ·rw [if_neg c34] at H
                 have c34b0 : decide (x62_3 < (x8_2.length : Int)) = false := decide_eq_false c34
                 clear c34
                 have H' := Aside0.mk H
                 clear H
                 go_wp2
                 go_roundg k3
                 case measure => have := HK1.out; have := HK2.out; have := HK3.out; omega
                 case rel => exact ⟨(x10_3), (wrap64 (x53_2 + 1)), (by first | rfl | (simp; done) | (simp [*]; done)), H', ⟨by have := HK1.out; have := HK2.out; have := HK3.out; omega⟩, ⟨by (with_reducible repeat (first | apply Kd.R_alloc | apply Kd.R_drewN | apply Kd.R_drew)); exact Kd.R_mono HO_10.out (fun _ hk => trivial)⟩, ⟨by repeat (first | (with_reducible first | exact HB.out | apply below_alloc | apply pw_below_drewN | apply below_drew1) | exact HB.out)⟩⟩
             ·rw [if_neg c30] at H
              exact absurd H (by simp)
            ·rw [if_neg c29] at H
             exact absurd H (by simp)
           ·rw [if_neg c27] at H
            have c27b0 : decide (x53_2 < (a0.size : Int)) = false := decide_eq_false c27
            clear c27
            by_cases c85 : 0 ≤ (a1.size : Int)
            ·rw [if_pos c85] at H
             have c85b0 : decide (0 ≤ (a1.size : Int)) = true := decide_eq_true c85
             have c85b1 : decide (0 ≤ a1.size) = true := decide_eq_true (by omega)
             clear c85
             by_cases c86 : (a1.size : Int) < (x8_2.length : Int)
             ·rw [if_pos c86] at H
              have c86b0 : decide ((a1.size : Int) < (x8_2.length : Int)) = true := decide_eq_true c86
              have c86b1 : decide (a1.size < x8_2.length) = true := decide_eq_true (Int.ofNat_lt.mp c86)
              clear c86
              simp only [Option.some.injEq, Prod.mk.injEq] at H
              obtain ⟨rfl, rfl⟩ := H
              obtain ⟨Ao87, co87, eo87⟩ := Kd.R_slice HO_8.out
              subst eo87
              have p208 : 0 ≤ ((a1.size : Int) : Int) := of_decide_eq_true (by first | (with_reducible assumption) | assumption)
              have q208 : (a1.size : Int) < (x8_2.length : Int) := of_decide_eq_true (by first | (with_reducible assumption) | assumption)
              obtain ⟨ad208, e208, hx208_0⟩ := Kd.at_bool (Kd.R_reads' HO_8.out).2.2 (a1.size : Int) p208 q208
              (try simp only [Int.toNat_natCast] at hx208_0)
              cases e208
              replace p208 := eq_true p208
              replace q208 := eq_true q208
              go_wp2
              go_ret2
              exact ⟨by first | rfl | (simp [errW_none, errW_some] <;> rfl) | (simp only [← hji18]; first | rfl | (simp [errW_none, errW_some] <;> rfl)) | (simp [*, errW_none, errW_some] <;> rfl), by repeat (first | (with_reducible first | exact HB.out | apply below_alloc | apply pw_below_drewN | apply below_drew1) | exact HB.out)⟩
             ·rw [if_neg c86] at H
              exact absurd H (by simp)
            ·rw [if_neg c85] at H
             exact absurd H (by simp)
        ·rw [if_neg c21] at H
         exact absurd H (by simp)
       ·rw [if_neg c20] at H
        exact absurd H (by simp)
      ·rw [if_neg c19] at H
       exact absurd H (by simp)
     ·replace c17 := Bool.eq_false_iff.mpr c17
      subst c17
      have H1 : (some (false, 5)) = some (r1, r2) := by rw [if_neg (show ¬ (false = true) by decide)] at H; exact H
      clear H
      have H := H1
      clear H1
      simp only [Option.some.injEq, Prod.mk.injEq] at H
      obtain ⟨rfl, rfl⟩ := H
      go_wp2_with (first | ((with_reducible refine gate_callee (f := 10) rfl ?_); refine goesL_ (some 43) rfl rfl Tryz.func10 (by kernel_rfl) rfl #[.string a1] rfl (by (try simp only [List.map_toArray, List.map_cons, List.map_nil]); first | done | rfl | (simp only [List.length_drop, List.length_take]; rfl)) ?_; (with_reducible refine (goods_Good.calls k1 a1 false _ A16.out).mono ?_); rintro e w' ⟨rfl, ⟨nd, rfl⟩⟩; refine ⟨_, rfl, ?_⟩))
      go_ret2
      exact ⟨by first | rfl | (simp [errW_none, errW_some] <;> rfl) | (simp [*, errW_none, errW_some] <;> rfl), by repeat (first | (with_reducible first | exact HB.out | apply below_alloc | apply pw_below_drewN | apply below_drew1) | exact HB.out)⟩

end Go.Proofs.YtmicghhmbojkfaaGreatDoor.G
