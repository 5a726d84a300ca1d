import Derived.Test.YtmicghhmbojkfaaGreatDoorQAl6
import Derived.Test.YtmicghhmbojkfaaGreatDoorQAl7
import Derived.Test.YtmicghhmbojkfaaGreatDoorQAl10
-- PRINTED by print.py (a twelfth state) out of the translation. Not trusted: Lean checks it.
namespace Go.Proofs.YtmicghhmbojkfaaGreatDoor.G
open Go.RowKit Go.Proofs.YtmicghhmbojkfaaGreatDoorW.PrintWords Go.Proofs.YtmicghhmbojkfaaGreatDoorW.PrintLast Go.Proofs.YtmicghhmbojkfaaGreatDoorW.PrintMore
attribute [local go_sem] max2_int min2_int max_two min_two max_three min_three max_four min_four   -- for this text's walks alone
set_option linter.unusedVariables false
set_option linter.unusedSimpArgs false

/-! ### barrowref02_Match: function 50 -/
mutual
def barrowref02_Match.l0 : Nat → ByteArray → ByteArray → Int → Option (Bool × Int)
 | 0, _, _, _ => none
 | k + 1, x0, x1, x6 => if x6 < (x0.size : Int) then (if 0 ≤ x6 then ((barrowref02_letter.f (bt x0 x6)).bind fun t224 => (if t224 = true then (barrowref02_Match.l0 k x0 x1 (wrap64 (x6 + 1))) else ((barrowref02_digit.f (bt x0 x6)).bind fun t225 => (if t225 = true then (barrowref02_Match.l0 k x0 x1 (wrap64 (x6 + 1))) else ((barrowref02_mark.f (bt x0 x6)).bind fun t226 => (if t226 = true then (barrowref02_Match.l0 k x0 x1 (wrap64 (x6 + 1))) else (if (bt x0 x6) = 42 then (barrowref02_Match.l0 k x0 x1 (wrap64 (x6 + 1))) else (if (bt x0 x6) = 63 then (barrowref02_Match.l0 k x0 x1 (wrap64 (x6 + 1))) else (if (bt x0 x6) = 35 then (barrowref02_Match.l0 k x0 x1 (wrap64 (x6 + 1))) else (if (bt x0 x6) = 64 then (barrowref02_Match.l0 k x0 x1 (wrap64 (x6 + 1))) else (some (false, 22)))))))))))) else (none)) else ((barrowref02_Good.f k x1).bind fun t227 => (if t227 = true then (if 0 ≤ (wrap64 ((x1.size : Int) + 1)) then (if (wrap64 ((x1.size : Int) + 1) : Int).toNat ≤ 281474976710656 then ((some (List.replicate (wrap64 ((x1.size : Int) + 1) : Int).toNat false : List Bool)).bind fun y228 => (if 0 < (y228.length : Int) then (barrowref02_Match.l1 k x0 x1 (y228.set (0 : Int).toNat true) 0) else (none))) else (none)) else (none)) else (some (false, 5))))
def barrowref02_Match.l1 : Nat → ByteArray → ByteArray → List Bool → Int → Option (Bool × Int)
 | 0, _, _, _, _ => none
 | k + 1, x0, x1, x8, x9 => if x9 < (x0.size : Int) then (if 0 ≤ (wrap64 ((x1.size : Int) + 1)) then (if (wrap64 ((x1.size : Int) + 1) : Int).toNat ≤ 281474976710656 then (barrowref02_Match.l2 k x0 x1 x8 x9 (List.replicate (wrap64 ((x1.size : Int) + 1) : Int).toNat false) false 0) else (none)) else (none)) else (if 0 ≤ (x1.size : Int) then (if (x1.size : Int) < (x8.length : Int) then (some (rdOf false x8 (x1.size : Int), 0)) else (none)) else (none))
def barrowref02_Match.l2 : Nat → ByteArray → ByteArray → List Bool → Int → List Bool → Bool → Int → Option (Bool × Int)
 | 0, _, _, _, _, _, _, _ => none
 | k + 1, x0, x1, x8, x9, x10, x11, x12 => if x12 ≤ (x1.size : Int) then (if x11 = true then (barrowref02_Match.j3 k x0 x1 x8 x9 x10 true x12) else (if 0 ≤ x12 then (if x12 < (x8.length : Int) then (barrowref02_Match.j3 k x0 x1 x8 x9 x10 (rdOf false x8 x12) x12) else (none)) else (none))) else (barrowref02_Match.l1 k x0 x1 x10 (wrap64 (x9 + 1)))
def barrowref02_Match.j3 : Nat → ByteArray → ByteArray → List Bool → Int → List Bool → Bool → Int → Option (Bool × Int)
 | 0, _, _, _, _, _, _, _ => none
 | k + 1, x0, x1, x8, x9, x10, x11, x12 => if 0 ≤ x9 then (if x9 < (x0.size : Int) then (if (bt x0 x9) = 42 then (if 0 ≤ x12 then (if x12 < (x10.length : Int) then (barrowref02_Match.l2 k x0 x1 x8 x9 (x10.set (x12 : Int).toNat x11) x11 (wrap64 (x12 + 1))) else (none)) else (none)) else (if x12 > 0 then (if 0 ≤ (wrap64 (x12 - 1)) then (if (wrap64 (x12 - 1)) < (x8.length : Int) then (if rdOf false x8 (wrap64 (x12 - 1)) = true then (if (wrap64 (x12 - 1)) < (x1.size : Int) then ((barrowref02_fits.f (bt x0 x9) (bt x1 (wrap64 (x12 - 1)))).bind fun t239 => (if t239 = true then (if 0 ≤ x12 then (if x12 < (x10.length : Int) then (barrowref02_Match.l2 k x0 x1 x8 x9 (x10.set (x12 : Int).toNat true) x11 (wrap64 (x12 + 1))) else (none)) else (none)) else (barrowref02_Match.l2 k x0 x1 x8 x9 x10 x11 (wrap64 (x12 + 1))))) else (none)) else (barrowref02_Match.l2 k x0 x1 x8 x9 x10 x11 (wrap64 (x12 + 1)))) else (none)) else (none)) else (barrowref02_Match.l2 k x0 x1 x8 x9 x10 x11 (wrap64 (x12 + 1))))) else (none)) else (none)
end
def barrowref02_Match.f (k : Nat) (a0 : ByteArray) (a1 : ByteArray) : Option (Bool × Int) := if (a0.size : Int) > 48 then (some (false, 21)) else (barrowref02_Match.l0 k a0 a1 0)
theorem barrowref02_Match.mono_l : ∀ k, (∀ y0 y1 y2, LeO (barrowref02_Match.l0 k y0 y1 y2) (barrowref02_Match.l0 (k + 1) y0 y1 y2)) ∧ (∀ y0 y1 y2 y3, LeO (barrowref02_Match.l1 k y0 y1 y2 y3) (barrowref02_Match.l1 (k + 1) y0 y1 y2 y3)) ∧ (∀ y0 y1 y2 y3 y4 y5 y6, LeO (barrowref02_Match.l2 k y0 y1 y2 y3 y4 y5 y6) (barrowref02_Match.l2 (k + 1) y0 y1 y2 y3 y4 y5 y6)) ∧ (∀ y0 y1 y2 y3 y4 y5 y6, LeO (barrowref02_Match.j3 k y0 y1 y2 y3 y4 y5 y6) (barrowref02_Match.j3 (k + 1) y0 y1 y2 y3 y4 y5 y6))
 | 0 => ⟨fun _ _ _ r h => by simp [barrowref02_Match.l0] at h, fun _ _ _ _ r h => by simp [barrowref02_Match.l1] at h, fun _ _ _ _ _ _ _ r h => by simp [barrowref02_Match.l2] at h, fun _ _ _ _ _ _ _ r h => by simp [barrowref02_Match.j3] at h⟩
 | k + 1 => by
  obtain ⟨ih0, ih1, ih2, ih3⟩ := barrowref02_Match.mono_l k
  refine ⟨?_, ?_, ?_, ?_⟩
  ·intro y0 y1 y2
   unfold barrowref02_Match.l0
   repeat' first
   | (with_reducible exact ih0 _ _ _)
   | (with_reducible exact ih1 _ _ _ _)
   | (with_reducible exact ih2 _ _ _ _ _ _ _)
   | (with_reducible exact ih3 _ _ _ _ _ _ _)
   | (with_reducible exact barrowref02_Good.mono _ _)
   | (with_reducible exact LeO.refl _)
   | (with_reducible exact LeO.none _)
   | (with_reducible refine LeO.ite ?_ ?_)
   | (with_reducible refine LeO.bind ?_ (fun _ => ?_))
   | exact ih0 _ _ _
   | exact ih1 _ _ _ _
   | exact ih2 _ _ _ _ _ _ _
   | exact ih3 _ _ _ _ _ _ _
   | exact barrowref02_Good.mono _ _
   | exact LeO.none _
   | refine LeO.ite ?_ ?_
   | refine LeO.bind ?_ (fun _ => ?_)
  ·intro y0 y1 y2 y3
   unfold barrowref02_Match.l1
   repeat' first
   | (with_reducible exact ih0 _ _ _)
   | (with_reducible exact ih1 _ _ _ _)
   | (with_reducible exact ih2 _ _ _ _ _ _ _)
   | (with_reducible exact ih3 _ _ _ _ _ _ _)
   | (with_reducible exact barrowref02_Good.mono _ _)
   | (with_reducible exact LeO.refl _)
   | (with_reducible exact LeO.none _)
   | (with_reducible refine LeO.ite ?_ ?_)
   | (with_reducible refine LeO.bind ?_ (fun _ => ?_))
   | exact ih0 _ _ _
   | exact ih1 _ _ _ _
   | exact ih2 _ _ _ _ _ _ _
   | exact ih3 _ _ _ _ _ _ _
   | exact barrowref02_Good.mono _ _
   | exact LeO.none _
   | refine LeO.ite ?_ ?_
   | refine LeO.bind ?_ (fun _ => ?_)
  ·intro y0 y1 y2 y3 y4 y5 y6
   unfold barrowref02_Match.l2
   repeat' first
   | (with_reducible exact ih0 _ _ _)
   | (with_reducible exact ih1 _ _ _ _)
   | (with_reducible exact ih2 _ _ _ _ _ _ _)
   | (with_reducible exact ih3 _ _ _ _ _ _ _)
   | (with_reducible exact barrowref02_Good.mono _ _)
   | (with_reducible exact LeO.refl _)
   | (with_reducible exact LeO.none _)
   | (with_reducible refine LeO.ite ?_ ?_)
   | (with_reducible refine LeO.bind ?_ (fun _ => ?_))
   | exact ih0 _ _ _
   | exact ih1 _ _ _ _
   | exact ih2 _ _ _ _ _ _ _
   | exact ih3 _ _ _ _ _ _ _
   | exact barrowref02_Good.mono _ _
   | exact LeO.none _
   | refine LeO.ite ?_ ?_
   | refine LeO.bind ?_ (fun _ => ?_)
  ·intro y0 y1 y2 y3 y4 y5 y6
   unfold barrowref02_Match.j3
   repeat' first
   | (with_reducible exact ih0 _ _ _)
   | (with_reducible exact ih1 _ _ _ _)
   | (with_reducible exact ih2 _ _ _ _ _ _ _)
   | (with_reducible exact ih3 _ _ _ _ _ _ _)
   | (with_reducible exact barrowref02_Good.mono _ _)
   | (with_reducible exact LeO.refl _)
   | (with_reducible exact LeO.none _)
   | (with_reducible refine LeO.ite ?_ ?_)
   | (with_reducible refine LeO.bind ?_ (fun _ => ?_))
   | exact ih0 _ _ _
   | exact ih1 _ _ _ _
   | exact ih2 _ _ _ _ _ _ _
   | exact ih3 _ _ _ _ _ _ _
   | exact barrowref02_Good.mono _ _
   | exact LeO.none _
   | refine LeO.ite ?_ ?_
   | refine LeO.bind ?_ (fun _ => ?_)
theorem barrowref02_Match.mono : ∀ a0 a1 k, LeO (barrowref02_Match.f k a0 a1) (barrowref02_Match.f (k + 1) a0 a1) := by
 intro a0 a1 k
 obtain ⟨ih0, ih1, ih2, ih3⟩ := barrowref02_Match.mono_l k
 unfold barrowref02_Match.f
 repeat' first
   | (with_reducible exact ih0 _ _ _)
   | (with_reducible exact ih1 _ _ _ _)
   | (with_reducible exact ih2 _ _ _ _ _ _ _)
   | (with_reducible exact ih3 _ _ _ _ _ _ _)
   | (with_reducible exact barrowref02_Good.mono _ _)
   | (with_reducible exact LeO.refl _)
   | (with_reducible exact LeO.none _)
   | (with_reducible refine LeO.ite ?_ ?_)
   | (with_reducible refine LeO.bind ?_ (fun _ => ?_))
   | exact ih0 _ _ _
   | exact ih1 _ _ _ _
   | exact ih2 _ _ _ _ _ _ _
   | exact ih3 _ _ _ _ _ _ _
   | exact barrowref02_Good.mono _ _
   | exact LeO.none _
   | refine LeO.ite ?_ ?_
   | refine LeO.bind ?_ (fun _ => ?_)
set_option maxHeartbeats 8000000 in
set_option maxRecDepth 100000 in
theorem barrowref02_Match.calls (k : Nat) (a0 : ByteArray) (a1 : ByteArray) (r1 : Bool) (r2 : Int) (w : World) (h : barrowref02_Match.f k a0 a1 = some (r1, r2)) :
  Calls Tryz.prog 50 #[.string a0, .string a1] w fun e w' => e = .returned (.tuple #[.bool r1, .int .i64 r2]) ∧ Below w.heap.size w w' := by
 have HB := Aside0.mk (Below.refl w.heap.size w)
 have H : (if (a0.size : Int) > 48 then (some (false, 21)) else (barrowref02_Match.l0 k a0 a1 0)) = some (r1, r2) := h
 clear h
 by_cases c3 : (a0.size : Int) > 48
 ·rw [if_pos c3] at H
  have c3b0 : decide (48 < (a0.size : Int)) = true := decide_eq_true c3
  have c3b1 : decide (48 < a0.size) = true := decide_eq_true (by omega)
  clear c3
  simp only [Option.some.injEq, Prod.mk.injEq] at H
  obtain ⟨rfl, rfl⟩ := H
  go_enter Tryz.func50, Tryz.ntmps50
  go_wp2
  repeat (go_quiet (fail); try go_wp2)
  go_ret2
  exact ⟨by first | rfl | (simp [errW_none, errW_some] <;> rfl) | (simp [*, errW_none, errW_some] <;> rfl), by repeat (first | (with_reducible first | exact HB.out | apply below_alloc | apply pw_below_drewN | apply below_drew1) | exact HB.out)⟩
 ·rw [if_neg c3] at H
  have c3b0 : decide (48 < (a0.size : Int)) = false := decide_eq_false c3
  have c3b1 : decide (48 < a0.size) = false := decide_eq_false (by omega)
  clear c3
  have H' := Aside0.mk H
  clear H
  go_enter Tryz.func50, Tryz.ntmps50
  go_wp2
  repeat (go_quiet (fail); try go_wp2)
  go_loopg [6] k (fun kq v6 w' => ∃ (x6_1 : Int), v6 = .int .i64 x6_1 ∧ Aside0 (barrowref02_Match.l0 kq a0 a1 x6_1 = some (r1, r2)) ∧ Aside0 (kq ≤ k) ∧ Aside0 (Below w.heap.size w w'))
  case atStart => exact ⟨(0), (by first | rfl | (simp; done) | (simp [*]; done)), H', ⟨Nat.le_refl _⟩, ⟨by repeat (first | (with_reducible first | exact HB.out | apply below_alloc | apply pw_below_drewN | apply below_drew1) | exact HB.out)⟩⟩
  case round =>
   clear H'
   try clear p2
   try clear c3
   try clear c3b0
   try clear c3b1
   obtain ⟨x6_1, rfl, HA, HK1, HB⟩ := hrel
   cases gk with
   | zero => exact absurd HA.out (by simp [barrowref02_Match.l0])
   | succ k1 =>
    have H := HA.out
    clear HA
    simp only [barrowref02_Match.l0] at H
    by_cases c4 : x6_1 < (a0.size : Int)
    ·rw [if_pos c4] at H
     have c4b0 : decide (x6_1 < (a0.size : Int)) = true := decide_eq_true c4
     clear c4
     by_cases c5 : 0 ≤ x6_1
     ·rw [if_pos c5] at H
      have c5b0 : decide (0 ≤ x6_1) = true := decide_eq_true c5
      clear c5
      replace H := Option.bind_eq_some_iff.mp H
      obtain ⟨t224, A70, H⟩ := H
      replace H : (if t224 = true then (barrowref02_Match.l0 k1 a0 a1 (wrap64 (x6_1 + 1))) else ((barrowref02_digit.f (bt a0 x6_1)).bind fun t225 => (if t225 = true then (barrowref02_Match.l0 k1 a0 a1 (wrap64 (x6_1 + 1))) else ((barrowref02_mark.f (bt a0 x6_1)).bind fun t226 => (if t226 = true then (barrowref02_Match.l0 k1 a0 a1 (wrap64 (x6_1 + 1))) else (if (bt a0 x6_1) = 42 then (barrowref02_Match.l0 k1 a0 a1 (wrap64 (x6_1 + 1))) else (if (bt a0 x6_1) = 63 then (barrowref02_Match.l0 k1 a0 a1 (wrap64 (x6_1 + 1))) else (if (bt a0 x6_1) = 35 then (barrowref02_Match.l0 k1 a0 a1 (wrap64 (x6_1 + 1))) else (if (bt a0 x6_1) = 64 then (barrowref02_Match.l0 k1 a0 a1 (wrap64 (x6_1 + 1))) else (some (false, 22))))))))))) = some (r1, r2) := H
      have A7 := Aside0.mk A70
      clear A70
      by_cases c8 : t224 = true
      ·subst c8
       have H1 : (barrowref02_Match.l0 k1 a0 a1 (wrap64 (x6_1 + 1))) = some (r1, r2) := by rw [if_pos rfl] at H; exact H
       clear H
       have H := H1
       clear H1
       have H' := Aside0.mk H
       clear H
       have p6 : 0 ≤ (x6_1 : Int) := of_decide_eq_true (by first | (with_reducible assumption) | assumption)
       have q6 : x6_1 < (a0.size : Int) := of_decide_eq_true (by first | (with_reducible assumption) | assumption)
       have hx6 := bt_at a0 x6_1
       replace p6 := eq_true p6
       replace q6 := eq_true q6
       go_wp2_with (first | (go_at_call 79; (with_reducible refine (barrowref02_letter.calls (bt a0 x6_1) true _ A7.out).mono ?_); rintro e w' ⟨rfl, ⟨nd, rfl⟩⟩; (try first | exact ⟨rfl, _, World.drewN_drewN _ _ _⟩ | exact ⟨rfl, _, Eq.trans (World.drewN_drewN _ _ _) (congrArg (World.drewN _) (Nat.add_assoc _ _ _))⟩)))
       repeat (go_quiet (first | (go_at_call 79; (with_reducible refine (barrowref02_letter.calls (bt a0 x6_1) true _ A7.out).mono ?_); rintro e w' ⟨rfl, ⟨nd, rfl⟩⟩; (try first | exact ⟨rfl, _, World.drewN_drewN _ _ _⟩ | exact ⟨rfl, _, Eq.trans (World.drewN_drewN _ _ _) (congrArg (World.drewN _) (Nat.add_assoc _ _ _))⟩))); try go_wp2_with (first | (go_at_call 79; (with_reducible refine (barrowref02_letter.calls (bt a0 x6_1) true _ A7.out).mono ?_); rintro e w' ⟨rfl, ⟨nd, rfl⟩⟩; (try first | exact ⟨rfl, _, World.drewN_drewN _ _ _⟩ | exact ⟨rfl, _, Eq.trans (World.drewN_drewN _ _ _) (congrArg (World.drewN _) (Nat.add_assoc _ _ _))⟩))))
       go_roundg k1
       case measure => have := HK1.out; omega
       case rel => exact ⟨(wrap64 (x6_1 + 1)), (by first | rfl | (simp; done) | (simp [*]; done)), H', ⟨by have := HK1.out; omega⟩, ⟨by repeat (first | (with_reducible first | exact HB.out | apply below_alloc | apply pw_below_drewN | apply below_drew1) | exact HB.out)⟩⟩
      ·replace c8 := Bool.eq_false_iff.mpr c8
       subst c8
       have H1 : ((barrowref02_digit.f (bt a0 x6_1)).bind fun t225 => (if t225 = true then (barrowref02_Match.l0 k1 a0 a1 (wrap64 (x6_1 + 1))) else ((barrowref02_mark.f (bt a0 x6_1)).bind fun t226 => (if t226 = true then (barrowref02_Match.l0 k1 a0 a1 (wrap64 (x6_1 + 1))) else (if (bt a0 x6_1) = 42 then (barrowref02_Match.l0 k1 a0 a1 (wrap64 (x6_1 + 1))) else (if (bt a0 x6_1) = 63 then (barrowref02_Match.l0 k1 a0 a1 (wrap64 (x6_1 + 1))) else (if (bt a0 x6_1) = 35 then (barrowref02_Match.l0 k1 a0 a1 (wrap64 (x6_1 + 1))) else (if (bt a0 x6_1) = 64 then (barrowref02_Match.l0 k1 a0 a1 (wrap64 (x6_1 + 1))) else (some (false, 22)))))))))) = some (r1, r2) := by rw [if_neg (show ¬ (false = true) by decide)] at H; exact H
       clear H
       have H := H1
       clear H1
       replace H := Option.bind_eq_some_iff.mp H
       obtain ⟨t225, A90, H⟩ := H
       replace H : (if t225 = true then (barrowref02_Match.l0 k1 a0 a1 (wrap64 (x6_1 + 1))) else ((barrowref02_mark.f (bt a0 x6_1)).bind fun t226 => (if t226 = true then (barrowref02_Match.l0 k1 a0 a1 (wrap64 (x6_1 + 1))) else (if (bt a0 x6_1) = 42 then (barrowref02_Match.l0 k1 a0 a1 (wrap64 (x6_1 + 1))) else (if (bt a0 x6_1) = 63 then (barrowref02_Match.l0 k1 a0 a1 (wrap64 (x6_1 + 1))) else (if (bt a0 x6_1) = 35 then (barrowref02_Match.l0 k1 a0 a1 (wrap64 (x6_1 + 1))) else (if (bt a0 x6_1) = 64 then (barrowref02_Match.l0 k1 a0 a1 (wrap64 (x6_1 + 1))) else (some (false, 22))))))))) = some (r1, r2) := H
       have A9 := Aside0.mk A90
       clear A90
       by_cases c10 : t225 = true
       ·subst c10
        have H1 : (barrowref02_Match.l0 k1 a0 a1 (wrap64 (x6_1 + 1))) = some (r1, r2) := by rw [if_pos rfl] at H; exact H
        clear H
        have H := H1
        clear H1
        have H' := Aside0.mk H
        clear H
        have p6 : 0 ≤ (x6_1 : Int) := of_decide_eq_true (by first | (with_reducible assumption) | assumption)
        have q6 : x6_1 < (a0.size : Int) := of_decide_eq_true (by first | (with_reducible assumption) | assumption)
        have hx6 := bt_at a0 x6_1
        replace p6 := eq_true p6
        replace q6 := eq_true q6
        go_wp2_with (first | (go_at_call 79; (with_reducible refine (barrowref02_letter.calls (bt a0 x6_1) false _ A7.out).mono ?_); rintro e w' ⟨rfl, ⟨nd, rfl⟩⟩; (try first | exact ⟨rfl, _, World.drewN_drewN _ _ _⟩ | exact ⟨rfl, _, Eq.trans (World.drewN_drewN _ _ _) (congrArg (World.drewN _) (Nat.add_assoc _ _ _))⟩)) | (go_at_call 52; (with_reducible refine (barrowref02_digit.calls (bt a0 x6_1) true _ A9.out).mono ?_); rintro e w' ⟨rfl, ⟨nd, rfl⟩⟩; (try first | exact ⟨rfl, _, World.drewN_drewN _ _ _⟩ | exact ⟨rfl, _, Eq.trans (World.drewN_drewN _ _ _) (congrArg (World.drewN _) (Nat.add_assoc _ _ _))⟩)))
        repeat (go_quiet (first | (go_at_call 79; (with_reducible refine (barrowref02_letter.calls (bt a0 x6_1) false _ A7.out).mono ?_); rintro e w' ⟨rfl, ⟨nd, rfl⟩⟩; (try first | exact ⟨rfl, _, World.drewN_drewN _ _ _⟩ | exact ⟨rfl, _, Eq.trans (World.drewN_drewN _ _ _) (congrArg (World.drewN _) (Nat.add_assoc _ _ _))⟩)) | (go_at_call 52; (with_reducible refine (barrowref02_digit.calls (bt a0 x6_1) true _ A9.out).mono ?_); rintro e w' ⟨rfl, ⟨nd, rfl⟩⟩; (try first | exact ⟨rfl, _, World.drewN_drewN _ _ _⟩ | exact ⟨rfl, _, Eq.trans (World.drewN_drewN _ _ _) (congrArg (World.drewN _) (Nat.add_assoc _ _ _))⟩))); try go_wp2_with (first | (go_at_call 79; (with_reducible refine (barrowref02_letter.calls (bt a0 x6_1) false _ A7.out).mono ?_); rintro e w' ⟨rfl, ⟨nd, rfl⟩⟩; (try first | exact ⟨rfl, _, World.drewN_drewN _ _ _⟩ | exact ⟨rfl, _, Eq.trans (World.drewN_drewN _ _ _) (congrArg (World.drewN _) (Nat.add_assoc _ _ _))⟩)) | (go_at_call 52; (with_reducible refine (barrowref02_digit.calls (bt a0 x6_1) true _ A9.out).mono ?_); rintro e w' ⟨rfl, ⟨nd, rfl⟩⟩; (try first | exact ⟨rfl, _, World.drewN_drewN _ _ _⟩ | exact ⟨rfl, _, Eq.trans (World.drewN_drewN _ _ _) (congrArg (World.drewN _) (Nat.add_assoc _ _ _))⟩))))
        go_roundg k1
        case measure => have := HK1.out; omega
        case rel => exact ⟨(wrap64 (x6_1 + 1)), (by first | rfl | (simp; done) | (simp [*]; done)), H', ⟨by have := HK1.out; omega⟩, ⟨by repeat (first | (with_reducible first | exact HB.out | apply below_alloc | apply pw_below_drewN | apply below_drew1) | exact HB.out)⟩⟩
       ·replace c10 := Bool.eq_false_iff.mpr c10
        subst c10
        have H1 : ((barrowref02_mark.f (bt a0 x6_1)).bind fun t226 => (if t226 = true then (barrowref02_Match.l0 k1 a0 a1 (wrap64 (x6_1 + 1))) else (if (bt a0 x6_1) = 42 then (barrowref02_Match.l0 k1 a0 a1 (wrap64 (x6_1 + 1))) else (if (bt a0 x6_1) = 63 then (barrowref02_Match.l0 k1 a0 a1 (wrap64 (x6_1 + 1))) else (if (bt a0 x6_1) = 35 then (barrowref02_Match.l0 k1 a0 a1 (wrap64 (x6_1 + 1))) else (if (bt a0 x6_1) = 64 then (barrowref02_Match.l0 k1 a0 a1 (wrap64 (x6_1 + 1))) else (some (false, 22)))))))) = some (r1, r2) := by rw [if_neg (show ¬ (false = true) by decide)] at H; exact H
        clear H
        have H := H1
        clear H1
        replace H := Option.bind_eq_some_iff.mp H
        obtain ⟨t226, A110, H⟩ := H
        replace H : (if t226 = true then (barrowref02_Match.l0 k1 a0 a1 (wrap64 (x6_1 + 1))) else (if (bt a0 x6_1) = 42 then (barrowref02_Match.l0 k1 a0 a1 (wrap64 (x6_1 + 1))) else (if (bt a0 x6_1) = 63 then (barrowref02_Match.l0 k1 a0 a1 (wrap64 (x6_1 + 1))) else (if (bt a0 x6_1) = 35 then (barrowref02_Match.l0 k1 a0 a1 (wrap64 (x6_1 + 1))) else (if (bt a0 x6_1) = 64 then (barrowref02_Match.l0 k1 a0 a1 (wrap64 (x6_1 + 1))) else (some (false, 22))))))) = some (r1, r2) := H
        have A11 := Aside0.mk A110
        clear A110
        by_cases c12 : t226 = true
        ·subst c12
         have H1 : (barrowref02_Match.l0 k1 a0 a1 (wrap64 (x6_1 + 1))) = some (r1, r2) := by rw [if_pos rfl] at H; exact H
         clear H
         have H := H1
         clear H1
         have H' := Aside0.mk H
         clear H
         have p6 : 0 ≤ (x6_1 : Int) := of_decide_eq_true (by first | (with_reducible assumption) | assumption)
         have q6 : x6_1 < (a0.size : Int) := of_decide_eq_true (by first | (with_reducible assumption) | assumption)
         have hx6 := bt_at a0 x6_1
         replace p6 := eq_true p6
         replace q6 := eq_true q6
         go_wp2_with (first | (go_at_call 79; (with_reducible refine (barrowref02_letter.calls (bt a0 x6_1) false _ A7.out).mono ?_); rintro e w' ⟨rfl, ⟨nd, rfl⟩⟩; (try first | exact ⟨rfl, _, World.drewN_drewN _ _ _⟩ | exact ⟨rfl, _, Eq.trans (World.drewN_drewN _ _ _) (congrArg (World.drewN _) (Nat.add_assoc _ _ _))⟩)) | (go_at_call 52; (with_reducible refine (barrowref02_digit.calls (bt a0 x6_1) false _ A9.out).mono ?_); rintro e w' ⟨rfl, ⟨nd, rfl⟩⟩; (try first | exact ⟨rfl, _, World.drewN_drewN _ _ _⟩ | exact ⟨rfl, _, Eq.trans (World.drewN_drewN _ _ _) (congrArg (World.drewN _) (Nat.add_assoc _ _ _))⟩)) | (go_at_call 80; (with_reducible refine (barrowref02_mark.calls (bt a0 x6_1) true _ A11.out).mono ?_); rintro e w' ⟨rfl, ⟨nd, rfl⟩⟩; (try first | exact ⟨rfl, _, World.drewN_drewN _ _ _⟩ | exact ⟨rfl, _, Eq.trans (World.drewN_drewN _ _ _) (congrArg (World.drewN _) (Nat.add_assoc _ _ _))⟩)))
         repeat (go_quiet (first | (go_at_call 79; (with_reducible refine (barrowref02_letter.calls (bt a0 x6_1) false _ A7.out).mono ?_); rintro e w' ⟨rfl, ⟨nd, rfl⟩⟩; (try first | exact ⟨rfl, _, World.drewN_drewN _ _ _⟩ | exact ⟨rfl, _, Eq.trans (World.drewN_drewN _ _ _) (congrArg (World.drewN _) (Nat.add_assoc _ _ _))⟩)) | (go_at_call 52; (with_reducible refine (barrowref02_digit.calls (bt a0 x6_1) false _ A9.out).mono ?_); rintro e w' ⟨rfl, ⟨nd, rfl⟩⟩; (try first | exact ⟨rfl, _, World.drewN_drewN _ _ _⟩ | exact ⟨rfl, _, Eq.trans (World.drewN_drewN _ _ _) (congrArg (World.drewN _) (Nat.add_assoc _ _ _))⟩)) | (go_at_call 80; (with_reducible refine (barrowref02_mark.calls (bt a0 x6_1) true _ A11.out).mono ?_); rintro e w' ⟨rfl, ⟨nd, rfl⟩⟩; (try first | exact ⟨rfl, _, World.drewN_drewN _ _ _⟩ | exact ⟨rfl, _, Eq.trans (World.drewN_drewN _ _ _) (congrArg (World.drewN _) (Nat.add_assoc _ _ _))⟩))); try go_wp2_with (first | (go_at_call 79; (with_reducible refine (barrowref02_letter.calls (bt a0 x6_1) false _ A7.out).mono ?_); rintro e w' ⟨rfl, ⟨nd, rfl⟩⟩; (try first | exact ⟨rfl, _, World.drewN_drewN _ _ _⟩ | exact ⟨rfl, _, Eq.trans (World.drewN_drewN _ _ _) (congrArg (World.drewN _) (Nat.add_assoc _ _ _))⟩)) | (go_at_call 52; (with_reducible refine (barrowref02_digit.calls (bt a0 x6_1) false _ A9.out).mono ?_); rintro e w' ⟨rfl, ⟨nd, rfl⟩⟩; (try first | exact ⟨rfl, _, World.drewN_drewN _ _ _⟩ | exact ⟨rfl, _, Eq.trans (World.drewN_drewN _ _ _) (congrArg (World.drewN _) (Nat.add_assoc _ _ _))⟩)) | (go_at_call 80; (with_reducible refine (barrowref02_mark.calls (bt a0 x6_1) true _ A11.out).mono ?_); rintro e w' ⟨rfl, ⟨nd, rfl⟩⟩; (try first | exact ⟨rfl, _, World.drewN_drewN _ _ _⟩ | exact ⟨rfl, _, Eq.trans (World.drewN_drewN _ _ _) (congrArg (World.drewN _) (Nat.add_assoc _ _ _))⟩))))
         go_roundg k1
         case measure => have := HK1.out; omega
         case rel => exact ⟨(wrap64 (x6_1 + 1)), (by first | rfl | (simp; done) | (simp [*]; done)), H', ⟨by have := HK1.out; omega⟩, ⟨by repeat (first | (with_reducible first | exact HB.out | apply below_alloc | apply pw_below_drewN | apply below_drew1) | exact HB.out)⟩⟩
        ·replace c12 := Bool.eq_false_iff.mpr c12
         subst c12
         have H1 : (if (bt a0 x6_1) = 42 then (barrowref02_Match.l0 k1 a0 a1 (wrap64 (x6_1 + 1))) else (if (bt a0 x6_1) = 63 then (barrowref02_Match.l0 k1 a0 a1 (wrap64 (x6_1 + 1))) else (if (bt a0 x6_1) = 35 then (barrowref02_Match.l0 k1 a0 a1 (wrap64 (x6_1 + 1))) else (if (bt a0 x6_1) = 64 then (barrowref02_Match.l0 k1 a0 a1 (wrap64 (x6_1 + 1))) else (some (false, 22)))))) = some (r1, r2) := by rw [if_neg (show ¬ (false = true) by decide)] at H; exact H
         clear H
         have H := H1
         clear H1
         by_cases c13 : (bt a0 x6_1) = 42
         ·rw [if_pos c13] at H
          have c13b0 : ((bt a0 x6_1) == 42) = true := beq_iff_eq.mpr c13
          have c13b1 : ((bt a0 x6_1) != 42) = false := bne_eq_false_iff_eq.mpr c13
          clear c13
          have H' := Aside0.mk H
          clear H
          have p6 : 0 ≤ (x6_1 : Int) := of_decide_eq_true (by first | (with_reducible assumption) | assumption)
          have q6 : x6_1 < (a0.size : Int) := of_decide_eq_true (by first | (with_reducible assumption) | assumption)
          have hx6 := bt_at a0 x6_1
          replace p6 := eq_true p6
          replace q6 := eq_true q6
          go_wp2_with (first | (go_at_call 79; (with_reducible refine (barrowref02_letter.calls (bt a0 x6_1) false _ A7.out).mono ?_); rintro e w' ⟨rfl, ⟨nd, rfl⟩⟩; (try first | exact ⟨rfl, _, World.drewN_drewN _ _ _⟩ | exact ⟨rfl, _, Eq.trans (World.drewN_drewN _ _ _) (congrArg (World.drewN _) (Nat.add_assoc _ _ _))⟩)) | (go_at_call 52; (with_reducible refine (barrowref02_digit.calls (bt a0 x6_1) false _ A9.out).mono ?_); rintro e w' ⟨rfl, ⟨nd, rfl⟩⟩; (try first | exact ⟨rfl, _, World.drewN_drewN _ _ _⟩ | exact ⟨rfl, _, Eq.trans (World.drewN_drewN _ _ _) (congrArg (World.drewN _) (Nat.add_assoc _ _ _))⟩)) | (go_at_call 80; (with_reducible refine (barrowref02_mark.calls (bt a0 x6_1) false _ A11.out).mono ?_); rintro e w' ⟨rfl, ⟨nd, rfl⟩⟩; (try first | exact ⟨rfl, _, World.drewN_drewN _ _ _⟩ | exact ⟨rfl, _, Eq.trans (World.drewN_drewN _ _ _) (congrArg (World.drewN _) (Nat.add_assoc _ _ _))⟩)))
          repeat (go_quiet (first | (go_at_call 79; (with_reducible refine (barrowref02_letter.calls (bt a0 x6_1) false _ A7.out).mono ?_); rintro e w' ⟨rfl, ⟨nd, rfl⟩⟩; (try first | exact ⟨rfl, _, World.drewN_drewN _ _ _⟩ | exact ⟨rfl, _, Eq.trans (World.drewN_drewN _ _ _) (congrArg (World.drewN _) (Nat.add_assoc _ _ _))⟩)) | (go_at_call 52; (with_reducible refine (barrowref02_digit.calls (bt a0 x6_1) false _ A9.out).mono ?_); rintro e w' ⟨rfl, ⟨nd, rfl⟩⟩; (try first | exact ⟨rfl, _, World.drewN_drewN _ _ _⟩ | exact ⟨rfl, _, Eq.trans (World.drewN_drewN _ _ _) (congrArg (World.drewN _) (Nat.add_assoc _ _ _))⟩)) | (go_at_call 80; (with_reducible refine (barrowref02_mark.calls (bt a0 x6_1) false _ A11.out).mono ?_); rintro e w' ⟨rfl, ⟨nd, rfl⟩⟩; (try first | exact ⟨rfl, _, World.drewN_drewN _ _ _⟩ | exact ⟨rfl, _, Eq.trans (World.drewN_drewN _ _ _) (congrArg (World.drewN _) (Nat.add_assoc _ _ _))⟩))); try go_wp2_with (first | (go_at_call 79; (with_reducible refine (barrowref02_letter.calls (bt a0 x6_1) false _ A7.out).mono ?_); rintro e w' ⟨rfl, ⟨nd, rfl⟩⟩; (try first | exact ⟨rfl, _, World.drewN_drewN _ _ _⟩ | exact ⟨rfl, _, Eq.trans (World.drewN_drewN _ _ _) (congrArg (World.drewN _) (Nat.add_assoc _ _ _))⟩)) | (go_at_call 52; (with_reducible refine (barrowref02_digit.calls (bt a0 x6_1) false _ A9.out).mono ?_); rintro e w' ⟨rfl, ⟨nd, rfl⟩⟩; (try first | exact ⟨rfl, _, World.drewN_drewN _ _ _⟩ | exact ⟨rfl, _, Eq.trans (World.drewN_drewN _ _ _) (congrArg (World.drewN _) (Nat.add_assoc _ _ _))⟩)) | (go_at_call 80; (with_reducible refine (barrowref02_mark.calls (bt a0 x6_1) false _ A11.out).mono ?_); rintro e w' ⟨rfl, ⟨nd, rfl⟩⟩; (try first | exact ⟨rfl, _, World.drewN_drewN _ _ _⟩ | exact ⟨rfl, _, Eq.trans (World.drewN_drewN _ _ _) (congrArg (World.drewN _) (Nat.add_assoc _ _ _))⟩))))
          go_roundg k1
          case measure => have := HK1.out; omega
          case rel => exact ⟨(wrap64 (x6_1 + 1)), (by first | rfl | (simp; done) | (simp [*]; done)), H', ⟨by have := HK1.out; omega⟩, ⟨by repeat (first | (with_reducible first | exact HB.out | apply below_alloc | apply pw_below_drewN | apply below_drew1) | exact HB.out)⟩⟩
         ·rw [if_neg c13] at H
          have c13b0 : ((bt a0 x6_1) == 42) = false := beq_eq_false_iff_ne.mpr c13
          have c13b1 : ((bt a0 x6_1) != 42) = true := bne_iff_ne.mpr c13
          by_cases c14 : (bt a0 x6_1) = 63
          ·rw [if_pos c14] at H
           have c14b0 : ((bt a0 x6_1) == 63) = true := beq_iff_eq.mpr c14
           have c14b1 : ((bt a0 x6_1) != 63) = false := bne_eq_false_iff_eq.mpr c14
           clear c14
           have H' := Aside0.mk H
           clear H
           have p6 : 0 ≤ (x6_1 : Int) := of_decide_eq_true (by first | (with_reducible assumption) | assumption)
           have q6 : x6_1 < (a0.size : Int) := of_decide_eq_true (by first | (with_reducible assumption) | assumption)
           have hx6 := bt_at a0 x6_1
           replace p6 := eq_true p6
           replace q6 := eq_true q6
           go_wp2_with (first | (go_at_call 79; (with_reducible refine (barrowref02_letter.calls (bt a0 x6_1) false _ A7.out).mono ?_); rintro e w' ⟨rfl, ⟨nd, rfl⟩⟩; (try first | exact ⟨rfl, _, World.drewN_drewN _ _ _⟩ | exact ⟨rfl, _, Eq.trans (World.drewN_drewN _ _ _) (congrArg (World.drewN _) (Nat.add_assoc _ _ _))⟩)) | (go_at_call 52; (with_reducible refine (barrowref02_digit.calls (bt a0 x6_1) false _ A9.out).mono ?_); rintro e w' ⟨rfl, ⟨nd, rfl⟩⟩; (try first | exact ⟨rfl, _, World.drewN_drewN _ _ _⟩ | exact ⟨rfl, _, Eq.trans (World.drewN_drewN _ _ _) (congrArg (World.drewN _) (Nat.add_assoc _ _ _))⟩)) | (go_at_call 80; (with_reducible refine (barrowref02_mark.calls (bt a0 x6_1) false _ A11.out).mono ?_); rintro e w' ⟨rfl, ⟨nd, rfl⟩⟩; (try first | exact ⟨rfl, _, World.drewN_drewN _ _ _⟩ | exact ⟨rfl, _, Eq.trans (World.drewN_drewN _ _ _) (congrArg (World.drewN _) (Nat.add_assoc _ _ _))⟩)))
           repeat (go_quiet (first | (go_at_call 79; (with_reducible refine (barrowref02_letter.calls (bt a0 x6_1) false _ A7.out).mono ?_); rintro e w' ⟨rfl, ⟨nd, rfl⟩⟩; (try first | exact ⟨rfl, _, World.drewN_drewN _ _ _⟩ | exact ⟨rfl, _, Eq.trans (World.drewN_drewN _ _ _) (congrArg (World.drewN _) (Nat.add_assoc _ _ _))⟩)) | (go_at_call 52; (with_reducible refine (barrowref02_digit.calls (bt a0 x6_1) false _ A9.out).mono ?_); rintro e w' ⟨rfl, ⟨nd, rfl⟩⟩; (try first | exact ⟨rfl, _, World.drewN_drewN _ _ _⟩ | exact ⟨rfl, _, Eq.trans (World.drewN_drewN _ _ _) (congrArg (World.drewN _) (Nat.add_assoc _ _ _))⟩)) | (go_at_call 80; (with_reducible refine (barrowref02_mark.calls (bt a0 x6_1) false _ A11.out).mono ?_); rintro e w' ⟨rfl, ⟨nd, rfl⟩⟩; (try first | exact ⟨rfl, _, World.drewN_drewN _ _ _⟩ | exact ⟨rfl, _, Eq.trans (World.drewN_drewN _ _ _) (congrArg (World.drewN _) (Nat.add_assoc _ _ _))⟩))); try go_wp2_with (first | (go_at_call 79; (with_reducible refine (barrowref02_letter.calls (bt a0 x6_1) false _ A7.out).mono ?_); rintro e w' ⟨rfl, ⟨nd, rfl⟩⟩; (try first | exact ⟨rfl, _, World.drewN_drewN _ _ _⟩ | exact ⟨rfl, _, Eq.trans (World.drewN_drewN _ _ _) (congrArg (World.drewN _) (Nat.add_assoc _ _ _))⟩)) | (go_at_call 52; (with_reducible refine (barrowref02_digit.calls (bt a0 x6_1) false _ A9.out).mono ?_); rintro e w' ⟨rfl, ⟨nd, rfl⟩⟩; (try first | exact ⟨rfl, _, World.drewN_drewN _ _ _⟩ | exact ⟨rfl, _, Eq.trans (World.drewN_drewN _ _ _) (congrArg (World.drewN _) (Nat.add_assoc _ _ _))⟩)) | (go_at_call 80; (with_reducible refine (barrowref02_mark.calls (bt a0 x6_1) false _ A11.out).mono ?_); rintro e w' ⟨rfl, ⟨nd, rfl⟩⟩; (try first | exact ⟨rfl, _, World.drewN_drewN _ _ _⟩ | exact ⟨rfl, _, Eq.trans (World.drewN_drewN _ _ _) (congrArg (World.drewN _) (Nat.add_assoc _ _ _))⟩))))
           go_roundg k1
           case measure => have := HK1.out; omega
           case rel => exact ⟨(wrap64 (x6_1 + 1)), (by first | rfl | (simp; done) | (simp [*]; done)), H', ⟨by have := HK1.out; omega⟩, ⟨by repeat (first | (with_reducible first | exact HB.out | apply below_alloc | apply pw_below_drewN | apply below_drew1) | exact HB.out)⟩⟩
          ·rw [if_neg c14] at H
           have c14b0 : ((bt a0 x6_1) == 63) = false := beq_eq_false_iff_ne.mpr c14
           have c14b1 : ((bt a0 x6_1) != 63) = true := bne_iff_ne.mpr c14
           by_cases c15 : (bt a0 x6_1) = 35
           ·rw [if_pos c15] at H
            have c15b0 : ((bt a0 x6_1) == 35) = true := beq_iff_eq.mpr c15
            have c15b1 : ((bt a0 x6_1) != 35) = false := bne_eq_false_iff_eq.mpr c15
            clear c15
            have H' := Aside0.mk H
            clear H
            have p6 : 0 ≤ (x6_1 : Int) := of_decide_eq_true (by first | (with_reducible assumption) | assumption)
            have q6 : x6_1 < (a0.size : Int) := of_decide_eq_true (by first | (with_reducible assumption) | assumption)
            have hx6 := bt_at a0 x6_1
            replace p6 := eq_true p6
            replace q6 := eq_true q6
            go_wp2_with (first | (go_at_call 79; (with_reducible refine (barrowref02_letter.calls (bt a0 x6_1) false _ A7.out).mono ?_); rintro e w' ⟨rfl, ⟨nd, rfl⟩⟩; (try first | exact ⟨rfl, _, World.drewN_drewN _ _ _⟩ | exact ⟨rfl, _, Eq.trans (World.drewN_drewN _ _ _) (congrArg (World.drewN _) (Nat.add_assoc _ _ _))⟩)) | (go_at_call 52; (with_reducible refine (barrowref02_digit.calls (bt a0 x6_1) false _ A9.out).mono ?_); rintro e w' ⟨rfl, ⟨nd, rfl⟩⟩; (try first | exact ⟨rfl, _, World.drewN_drewN _ _ _⟩ | exact ⟨rfl, _, Eq.trans (World.drewN_drewN _ _ _) (congrArg (World.drewN _) (Nat.add_assoc _ _ _))⟩)) | (go_at_call 80; (with_reducible refine (barrowref02_mark.calls (bt a0 x6_1) false _ A11.out).mono ?_); rintro e w' ⟨rfl, ⟨nd, rfl⟩⟩; (try first | exact ⟨rfl, _, World.drewN_drewN _ _ _⟩ | exact ⟨rfl, _, Eq.trans (World.drewN_drewN _ _ _) (congrArg (World.drewN _) (Nat.add_assoc _ _ _))⟩)))
            repeat (go_quiet (first | (go_at_call 79; (with_reducible refine (barrowref02_letter.calls (bt a0 x6_1) false _ A7.out).mono ?_); rintro e w' ⟨rfl, ⟨nd, rfl⟩⟩; (try first | exact ⟨rfl, _, World.drewN_drewN _ _ _⟩ | exact ⟨rfl, _, Eq.trans (World.drewN_drewN _ _ _) (congrArg (World.drewN _) (Nat.add_assoc _ _ _))⟩)) | (go_at_call 52; (with_reducible refine (barrowref02_digit.calls (bt a0 x6_1) false _ A9.out).mono ?_); rintro e w' ⟨rfl, ⟨nd, rfl⟩⟩; (try first | exact ⟨rfl, _, World.drewN_drewN _ _ _⟩ | exact ⟨rfl, _, Eq.trans (World.drewN_drewN _ _ _) (congrArg (World.drewN _) (Nat.add_assoc _ _ _))⟩)) | (go_at_call 80; (with_reducible refine (barrowref02_mark.calls (bt a0 x6_1) false _ A11.out).mono ?_); rintro e w' ⟨rfl, ⟨nd, rfl⟩⟩; (try first | exact ⟨rfl, _, World.drewN_drewN _ _ _⟩ | exact ⟨rfl, _, Eq.trans (World.drewN_drewN _ _ _) (congrArg (World.drewN _) (Nat.add_assoc _ _ _))⟩))); try go_wp2_with (first | (go_at_call 79; (with_reducible refine (barrowref02_letter.calls (bt a0 x6_1) false _ A7.out).mono ?_); rintro e w' ⟨rfl, ⟨nd, rfl⟩⟩; (try first | exact ⟨rfl, _, World.drewN_drewN _ _ _⟩ | exact ⟨rfl, _, Eq.trans (World.drewN_drewN _ _ _) (congrArg (World.drewN _) (Nat.add_assoc _ _ _))⟩)) | (go_at_call 52; (with_reducible refine (barrowref02_digit.calls (bt a0 x6_1) false _ A9.out).mono ?_); rintro e w' ⟨rfl, ⟨nd, rfl⟩⟩; (try first | exact ⟨rfl, _, World.drewN_drewN _ _ _⟩ | exact ⟨rfl, _, Eq.trans (World.drewN_drewN _ _ _) (congrArg (World.drewN _) (Nat.add_assoc _ _ _))⟩)) | (go_at_call 80; (with_reducible refine (barrowref02_mark.calls (bt a0 x6_1) false _ A11.out).mono ?_); rintro e w' ⟨rfl, ⟨nd, rfl⟩⟩; (try first | exact ⟨rfl, _, World.drewN_drewN _ _ _⟩ | exact ⟨rfl, _, Eq.trans (World.drewN_drewN _ _ _) (congrArg (World.drewN _) (Nat.add_assoc _ _ _))⟩))))
            go_roundg k1
            case measure => have := HK1.out; omega
            case rel => exact ⟨(wrap64 (x6_1 + 1)), (by first | rfl | (simp; done) | (simp [*]; done)), H', ⟨by have := HK1.out; omega⟩, ⟨by repeat (first | (with_reducible first | exact HB.out | apply below_alloc | apply pw_below_drewN | apply below_drew1) | exact HB.out)⟩⟩
           ·rw [if_neg c15] at H
            have c15b0 : ((bt a0 x6_1) == 35) = false := beq_eq_false_iff_ne.mpr c15
            have c15b1 : ((bt a0 x6_1) != 35) = true := bne_iff_ne.mpr c15
            by_cases c16 : (bt a0 x6_1) = 64
            ·rw [if_pos c16] at H
             have c16b0 : ((bt a0 x6_1) == 64) = true := beq_iff_eq.mpr c16
             have c16b1 : ((bt a0 x6_1) != 64) = false := bne_eq_false_iff_eq.mpr c16
             clear c16
             have H' := Aside0.mk H
             clear H
             have p6 : 0 ≤ (x6_1 : Int) := of_decide_eq_true (by first | (with_reducible assumption) | assumption)
             have q6 : x6_1 < (a0.size : Int) := of_decide_eq_true (by first | (with_reducible assumption) | assumption)
             have hx6 := bt_at a0 x6_1
             replace p6 := eq_true p6
             replace q6 := eq_true q6
             go_wp2_with (first | (go_at_call 79; (with_reducible refine (barrowref02_letter.calls (bt a0 x6_1) false _ A7.out).mono ?_); rintro e w' ⟨rfl, ⟨nd, rfl⟩⟩; (try first | exact ⟨rfl, _, World.drewN_drewN _ _ _⟩ | exact ⟨rfl, _, Eq.trans (World.drewN_drewN _ _ _) (congrArg (World.drewN _) (Nat.add_assoc _ _ _))⟩)) | (go_at_call 52; (with_reducible refine (barrowref02_digit.calls (bt a0 x6_1) false _ A9.out).mono ?_); rintro e w' ⟨rfl, ⟨nd, rfl⟩⟩; (try first | exact ⟨rfl, _, World.drewN_drewN _ _ _⟩ | exact ⟨rfl, _, Eq.trans (World.drewN_drewN _ _ _) (congrArg (World.drewN _) (Nat.add_assoc _ _ _))⟩)) | (go_at_call 80; (with_reducible refine (barrowref02_mark.calls (bt a0 x6_1) false _ A11.out).mono ?_); rintro e w' ⟨rfl, ⟨nd, rfl⟩⟩; (try first | exact ⟨rfl, _, World.drewN_drewN _ _ _⟩ | exact ⟨rfl, _, Eq.trans (World.drewN_drewN _ _ _) (congrArg (World.drewN _) (Nat.add_assoc _ _ _))⟩)))
             repeat (go_quiet (first | (go_at_call 79; (with_reducible refine (barrowref02_letter.calls (bt a0 x6_1) false _ A7.out).mono ?_); rintro e w' ⟨rfl, ⟨nd, rfl⟩⟩; (try first | exact ⟨rfl, _, World.drewN_drewN _ _ _⟩ | exact ⟨rfl, _, Eq.trans (World.drewN_drewN _ _ _) (congrArg (World.drewN _) (Nat.add_assoc _ _ _))⟩)) | (go_at_call 52; (with_reducible refine (barrowref02_digit.calls (bt a0 x6_1) false _ A9.out).mono ?_); rintro e w' ⟨rfl, ⟨nd, rfl⟩⟩; (try first | exact ⟨rfl, _, World.drewN_drewN _ _ _⟩ | exact ⟨rfl, _, Eq.trans (World.drewN_drewN _ _ _) (congrArg (World.drewN _) (Nat.add_assoc _ _ _))⟩)) | (go_at_call 80; (with_reducible refine (barrowref02_mark.calls (bt a0 x6_1) false _ A11.out).mono ?_); rintro e w' ⟨rfl, ⟨nd, rfl⟩⟩; (try first | exact ⟨rfl, _, World.drewN_drewN _ _ _⟩ | exact ⟨rfl, _, Eq.trans (World.drewN_drewN _ _ _) (congrArg (World.drewN _) (Nat.add_assoc _ _ _))⟩))); try go_wp2_with (first | (go_at_call 79; (with_reducible refine (barrowref02_letter.calls (bt a0 x6_1) false _ A7.out).mono ?_); rintro e w' ⟨rfl, ⟨nd, rfl⟩⟩; (try first | exact ⟨rfl, _, World.drewN_drewN _ _ _⟩ | exact ⟨rfl, _, Eq.trans (World.drewN_drewN _ _ _) (congrArg (World.drewN _) (Nat.add_assoc _ _ _))⟩)) | (go_at_call 52; (with_reducible refine (barrowref02_digit.calls (bt a0 x6_1) false _ A9.out).mono ?_); rintro e w' ⟨rfl, ⟨nd, rfl⟩⟩; (try first | exact ⟨rfl, _, World.drewN_drewN _ _ _⟩ | exact ⟨rfl, _, Eq.trans (World.drewN_drewN _ _ _) (congrArg (World.drewN _) (Nat.add_assoc _ _ _))⟩)) | (go_at_call 80; (with_reducible refine (barrowref02_mark.calls (bt a0 x6_1) false _ A11.out).mono ?_); rintro e w' ⟨rfl, ⟨nd, rfl⟩⟩; (try first | exact ⟨rfl, _, World.drewN_drewN _ _ _⟩ | exact ⟨rfl, _, Eq.trans (World.drewN_drewN _ _ _) (congrArg (World.drewN _) (Nat.add_assoc _ _ _))⟩))))
             go_roundg k1
             case measure => have := HK1.out; omega
             case rel => exact ⟨(wrap64 (x6_1 + 1)), (by first | rfl | (simp; done) | (simp [*]; done)), H', ⟨by have := HK1.out; omega⟩, ⟨by repeat (first | (with_reducible first | exact HB.out | apply below_alloc | apply pw_below_drewN | apply below_drew1) | exact HB.out)⟩⟩
            ·rw [if_neg c16] at H
             have c16b0 : ((bt a0 x6_1) == 64) = false := beq_eq_false_iff_ne.mpr c16
             have c16b1 : ((bt a0 x6_1) != 64) = true := bne_iff_ne.mpr c16
             simp only [Option.some.injEq, Prod.mk.injEq] at H
             obtain ⟨rfl, rfl⟩ := H
             have p6 : 0 ≤ (x6_1 : Int) := of_decide_eq_true (by first | (with_reducible assumption) | assumption)
             have q6 : x6_1 < (a0.size : Int) := of_decide_eq_true (by first | (with_reducible assumption) | assumption)
             have hx6 := bt_at a0 x6_1
             replace p6 := eq_true p6
             replace q6 := eq_true q6
             go_wp2_with (first | (go_at_call 79; (with_reducible refine (barrowref02_letter.calls (bt a0 x6_1) false _ A7.out).mono ?_); rintro e w' ⟨rfl, ⟨nd, rfl⟩⟩; (try first | exact ⟨rfl, _, World.drewN_drewN _ _ _⟩ | exact ⟨rfl, _, Eq.trans (World.drewN_drewN _ _ _) (congrArg (World.drewN _) (Nat.add_assoc _ _ _))⟩)) | (go_at_call 52; (with_reducible refine (barrowref02_digit.calls (bt a0 x6_1) false _ A9.out).mono ?_); rintro e w' ⟨rfl, ⟨nd, rfl⟩⟩; (try first | exact ⟨rfl, _, World.drewN_drewN _ _ _⟩ | exact ⟨rfl, _, Eq.trans (World.drewN_drewN _ _ _) (congrArg (World.drewN _) (Nat.add_assoc _ _ _))⟩)) | (go_at_call 80; (with_reducible refine (barrowref02_mark.calls (bt a0 x6_1) false _ A11.out).mono ?_); rintro e w' ⟨rfl, ⟨nd, rfl⟩⟩; (try first | exact ⟨rfl, _, World.drewN_drewN _ _ _⟩ | exact ⟨rfl, _, Eq.trans (World.drewN_drewN _ _ _) (congrArg (World.drewN _) (Nat.add_assoc _ _ _))⟩)))
             repeat (go_quiet (first | (go_at_call 79; (with_reducible refine (barrowref02_letter.calls (bt a0 x6_1) false _ A7.out).mono ?_); rintro e w' ⟨rfl, ⟨nd, rfl⟩⟩; (try first | exact ⟨rfl, _, World.drewN_drewN _ _ _⟩ | exact ⟨rfl, _, Eq.trans (World.drewN_drewN _ _ _) (congrArg (World.drewN _) (Nat.add_assoc _ _ _))⟩)) | (go_at_call 52; (with_reducible refine (barrowref02_digit.calls (bt a0 x6_1) false _ A9.out).mono ?_); rintro e w' ⟨rfl, ⟨nd, rfl⟩⟩; (try first | exact ⟨rfl, _, World.drewN_drewN _ _ _⟩ | exact ⟨rfl, _, Eq.trans (World.drewN_drewN _ _ _) (congrArg (World.drewN _) (Nat.add_assoc _ _ _))⟩)) | (go_at_call 80; (with_reducible refine (barrowref02_mark.calls (bt a0 x6_1) false _ A11.out).mono ?_); rintro e w' ⟨rfl, ⟨nd, rfl⟩⟩; (try first | exact ⟨rfl, _, World.drewN_drewN _ _ _⟩ | exact ⟨rfl, _, Eq.trans (World.drewN_drewN _ _ _) (congrArg (World.drewN _) (Nat.add_assoc _ _ _))⟩))); try go_wp2_with (first | (go_at_call 79; (with_reducible refine (barrowref02_letter.calls (bt a0 x6_1) false _ A7.out).mono ?_); rintro e w' ⟨rfl, ⟨nd, rfl⟩⟩; (try first | exact ⟨rfl, _, World.drewN_drewN _ _ _⟩ | exact ⟨rfl, _, Eq.trans (World.drewN_drewN _ _ _) (congrArg (World.drewN _) (Nat.add_assoc _ _ _))⟩)) | (go_at_call 52; (with_reducible refine (barrowref02_digit.calls (bt a0 x6_1) false _ A9.out).mono ?_); rintro e w' ⟨rfl, ⟨nd, rfl⟩⟩; (try first | exact ⟨rfl, _, World.drewN_drewN _ _ _⟩ | exact ⟨rfl, _, Eq.trans (World.drewN_drewN _ _ _) (congrArg (World.drewN _) (Nat.add_assoc _ _ _))⟩)) | (go_at_call 80; (with_reducible refine (barrowref02_mark.calls (bt a0 x6_1) false _ A11.out).mono ?_); rintro e w' ⟨rfl, ⟨nd, rfl⟩⟩; (try first | exact ⟨rfl, _, World.drewN_drewN _ _ _⟩ | exact ⟨rfl, _, Eq.trans (World.drewN_drewN _ _ _) (congrArg (World.drewN _) (Nat.add_assoc _ _ _))⟩))))
             go_ret2
             exact ⟨by first | rfl | (simp [errW_none, errW_some] <;> rfl) | (simp [*, errW_none, errW_some] <;> rfl), by repeat (first | (with_reducible first | exact HB.out | apply below_alloc | apply pw_below_drewN | apply below_drew1) | exact HB.out)⟩
     ·rw [if_neg c5] at H
      exact absurd H (by simp)
    ·rw [if_neg c4] at H
     have c4b0 : decide (x6_1 < (a0.size : Int)) = false := decide_eq_false c4
     clear c4
     replace H := Option.bind_eq_some_iff.mp H
     obtain ⟨t227, A170, H⟩ := H
     replace H : (if t227 = true then (if 0 ≤ (wrap64 ((a1.size : Int) + 1)) then (if (wrap64 ((a1.size : Int) + 1) : Int).toNat ≤ 281474976710656 then ((some (List.replicate (wrap64 ((a1.size : Int) + 1) : Int).toNat false : List Bool)).bind fun y228 => (if 0 < (y228.length : Int) then (barrowref02_Match.l1 k1 a0 a1 (y228.set (0 : Int).toNat true) 0) else (none))) else (none)) else (none)) else (some (false, 5))) = some (r1, r2) := H
     have A17 := Aside0.mk A170
     clear A170
     by_cases c18 : t227 = true
     ·subst c18
      have H1 : (if 0 ≤ (wrap64 ((a1.size : Int) + 1)) then (if (wrap64 ((a1.size : Int) + 1) : Int).toNat ≤ 281474976710656 then ((some (List.replicate (wrap64 ((a1.size : Int) + 1) : Int).toNat false : List Bool)).bind fun y228 => (if 0 < (y228.length : Int) then (barrowref02_Match.l1 k1 a0 a1 (y228.set (0 : Int).toNat true) 0) else (none))) else (none)) else (none)) = some (r1, r2) := by rw [if_pos rfl] at H; exact H
      clear H
      have H := H1
      clear H1
      obtain ⟨ji19, hji19⟩ : ∃ j_ : Int, (wrap64 ((a1.size : Int) + 1)) = j_ := ⟨_, rfl⟩
      replace H : (if 0 ≤ (ji19) then (if (ji19 : Int).toNat ≤ 281474976710656 then ((some (List.replicate (ji19 : Int).toNat false : List Bool)).bind fun y228 => (if 0 < (y228.length : Int) then (barrowref02_Match.l1 k1 a0 a1 (y228.set (0 : Int).toNat true) 0) else (none))) else (none)) else (none)) = some (r1, r2) := by first | (rw [hji19] at H; exact H) | (simp only [hji19] at H ⊢; exact H)
      (try rw [hji19] at A17)
      have hji19w : (IntKind.i64.wrap ((a1.size : Int) + 1)) = ji19 := (i64_w _).trans hji19
      by_cases c20 : 0 ≤ (ji19)
      ·rw [if_pos c20] at H
       have c20b0 := eq_true c20
       have c20b1 : decide (0 ≤ (ji19)) = true := decide_eq_true c20
       clear c20
       by_cases c21 : (ji19 : Int).toNat ≤ 281474976710656
       ·rw [if_pos c21] at H
        have c21b0 := eq_true c21
        have c21b1 : decide ((ji19 : Int).toNat ≤ 281474976710656) = true := decide_eq_true c21
        clear c21
        obtain ⟨y228, hy228⟩ : ∃ y_ : List Bool, y_ = (List.replicate (ji19 : Int).toNat false) := ⟨_, rfl⟩
        replace H : (if 0 < (y228.length : Int) then (barrowref02_Match.l1 k1 a0 a1 (y228.set (0 : Int).toNat true) 0) else (none)) = some (r1, r2) := by first | (rw [hy228]; with_reducible exact H) | (have H2_ := (Option.bind_some _ _).symm.trans H; rw [hy228]; with_reducible exact H2_) | (have H2_ := (Option.bind_some _ _).symm.trans H; with_reducible exact H2_) | with_reducible exact H | (rw [hy228]; exact H) | exact H
        have Ny228 := Aside0.mk hy228
        clear hy228
        by_cases c22 : 0 < (y228.length : Int)
        ·rw [if_pos c22] at H
         have c22b0 : decide (0 < (y228.length : Int)) = true := decide_eq_true c22
         have c22b1 : decide (0 < y228.length) = true := decide_eq_true (by omega)
         clear c22
         obtain ⟨y231, hy231⟩ : ∃ y_ : List Bool, y_ = (y228.set (0 : Int).toNat true) := ⟨_, rfl⟩
         replace H : (barrowref02_Match.l1 k1 a0 a1 y231 0) = some (r1, r2) := by first | (rw [hy231]; with_reducible exact H) | (have H2_ := (Option.bind_some _ _).symm.trans H; rw [hy231]; with_reducible exact H2_) | (have H2_ := (Option.bind_some _ _).symm.trans H; with_reducible exact H2_) | with_reducible exact H | (rw [hy231]; exact H) | exact H
         have Ny231 := Aside0.mk hy231
         clear hy231
         have H' := Aside0.mk H
         clear H
         go_wp2_with (first | (go_at_call 41; (with_reducible refine (barrowref02_Good.calls k1 a1 true _ A17.out).mono ?_); rintro e w' ⟨rfl, ⟨nd, rfl⟩⟩; (try first | exact ⟨rfl, _, World.drewN_drewN _ _ _⟩ | exact ⟨rfl, _, Eq.trans (World.drewN_drewN _ _ _) (congrArg (World.drewN _) (Nat.add_assoc _ _ _))⟩)) | ((with_reducible refine gate_dst (N := 60) rfl ?_); refine Kd.R_make Kd.bool _ 4 rfl (N := 60) rfl 40 _ _ rfl ji19 rfl rfl Tryz.underlying40 (.bool false) 1 info4 rfl (by decide) (by omega) false (ok := fun _ => True) (okp := fun _ => True) rfl (fun _ hk => hk) trivial (of_decide_eq_true (by first | (with_reducible assumption) | assumption)) (Nat.le_trans (Nat.mul_le_mul_right _ (of_decide_eq_true (by first | (with_reducible assumption) | assumption) : ji19.toNat ≤ 281474976710656)) (by omega)) (Below.refl _ _) (Nat.le_refl _) ?_; intro v229 w24 ho25 hb hg_ hnew_; clear hg_ hnew_; (first | rw [← Ny228.out] at ho25 | (simp only [Int.reduceToNat] at ho25; rw [← Ny228.out] at ho25)); have n0_ := Aside0.mk (Kd.R_lower ho25 (below_size (by repeat (first | (with_reducible first | exact HB.out | apply below_alloc | apply pw_below_drewN | apply below_drew1) | exact HB.out)))); have n1_ := Aside0.mk (below_step (by repeat (first | (with_reducible first | exact HB.out | apply below_alloc | apply pw_below_drewN | apply below_drew1) | exact HB.out)) hb); clear HB; have HO230 := n0_; have HB := n1_; clear n0_ n1_; clear hb ho25; have p23 : 0 ≤ (0 : Int) := (by omega); have q23 : (0 : Int) < ((y228.length : Int) : Int) := of_decide_eq_true (by first | (with_reducible assumption) | assumption); have qi23 : (0 < y228.length) = True := eq_true (by omega); obtain ⟨go23, co23, eo23, gb23, gl23, cl23, HG23⟩ := Kd.R_form HO230.out (by omega); (first | cases eo23 | (injection eo23 with ea_ en_ ec_; (first | subst ea_ | (injection ea_ with ea_; subst ea_)); subst ec_; clear en_)); have GB23 := Aside0.mk gb23; have GG23 := Aside0.mk HG23; clear gb23 gl23 HG23; obtain ⟨hx23_0, hf23_0⟩ := Kd.R_celln false HO230.out (0 : Int) p23 q23; (try rw [show ((0 : Int)).toNat = 0 from rfl] at hx23_0); (try simp only [Nat.reduceMul, Nat.zero_mul, Nat.zero_add, Nat.reduceAdd] at hx23_0); (try rw [show ((0 : Int)).toNat = 0 from rfl] at hf23_0); (try simp only [Nat.reduceMul, Nat.zero_mul, Nat.zero_add, Nat.reduceAdd] at hf23_0); replace p23 := eq_true p23; replace q23 := eq_true q23; obtain ⟨hy26_, hz26_⟩ := Kd.R_celln false HO230.out (0 : Int) (by omega) (of_decide_eq_true (by first | (with_reducible assumption) | assumption)); (try simp only [Int.reduceToNat, Int.toNat_zero, Int.toNat_ofNat, Nat.reduceMul, Nat.zero_mul, Nat.zero_add] at hy26_ hz26_); (try rw [show ((0 : Int)).toNat = 0 from rfl] at hy26_); (try rw [show ((0 : Int)).toNat = 0 from rfl] at hz26_); have HP26 := Kd.R_putg HO230.out (0 : Int) true) | ((with_reducible refine gate_store (t := 4) (p := 62) rfl ?_); (try (rw [drewN_self w24]; generalize hq_ : World.drewN w24 _ = w24; have n0_ := Aside0.mk (Kd.R_at hq_ HO230.out); have n1_ := Aside0.mk (below_at hq_ HB.out); clear hq_ HO230 HB; have HO230 := n0_; have HB := n1_; clear n0_ n1_; (try (obtain ⟨hy26_, hz26_⟩ := Kd.R_celln false HO230.out (0 : Int) (by omega) (of_decide_eq_true (by first | (with_reducible assumption) | assumption)))); (try (try simp only [Int.reduceToNat, Int.toNat_zero, Int.toNat_ofNat, Nat.reduceMul, Nat.zero_mul, Nat.zero_add] at hy26_ hz26_)); (try (try rw [show ((0 : Int)).toNat = 0 from rfl] at hy26_)); (try (try rw [show ((0 : Int)).toNat = 0 from rfl] at hz26_)); (try (have HP26 := Kd.R_putg HO230.out (0 : Int) true)))); refine store_event (t := 4) (p := 62) (v := ?vo_w27) (w1 := (w24.setCell ⟨go23, (0 : Int).toNat, none⟩ (.bool true))) ?hg ?ho ?hn ?hr ?_; (case ho => rfl); (case hg => rfl); (case hn => rfl); (case hr => first | (go_simp; done) | (go_simp; rfl)); intro w27 hw; have hg : w24.grownBy w27 (some go23) := (by rw [hw]; exact HP26.2); have hp_ : Kd.R Kd.bool 4 w27 w.heap.size (fun _ => True) (.slice (some ⟨go23, 0, none⟩) y228.length co23) y231 := (by rw [hw, Ny231.out]; exact HP26.1); clear HP26; have n0_ := Aside0.mk (hp_); have n1_ := Aside0.mk ((by rw [hw]; exact below_set (HB.out) GB23.out : Below w.heap.size w w27)); clear HO230; clear HB; have HO230 := n0_; have HB := n1_; clear n0_ n1_; clear hg hw hp_))
         repeat (go_quiet (first | (go_at_call 41; (with_reducible refine (barrowref02_Good.calls k1 a1 true _ A17.out).mono ?_); rintro e w' ⟨rfl, ⟨nd, rfl⟩⟩; (try first | exact ⟨rfl, _, World.drewN_drewN _ _ _⟩ | exact ⟨rfl, _, Eq.trans (World.drewN_drewN _ _ _) (congrArg (World.drewN _) (Nat.add_assoc _ _ _))⟩)) | ((with_reducible refine gate_dst (N := 60) rfl ?_); refine Kd.R_make Kd.bool _ 4 rfl (N := 60) rfl 40 _ _ rfl ji19 rfl rfl Tryz.underlying40 (.bool false) 1 info4 rfl (by decide) (by omega) false (ok := fun _ => True) (okp := fun _ => True) rfl (fun _ hk => hk) trivial (of_decide_eq_true (by first | (with_reducible assumption) | assumption)) (Nat.le_trans (Nat.mul_le_mul_right _ (of_decide_eq_true (by first | (with_reducible assumption) | assumption) : ji19.toNat ≤ 281474976710656)) (by omega)) (Below.refl _ _) (Nat.le_refl _) ?_; intro v229 w24 ho25 hb hg_ hnew_; clear hg_ hnew_; (first | rw [← Ny228.out] at ho25 | (simp only [Int.reduceToNat] at ho25; rw [← Ny228.out] at ho25)); have n0_ := Aside0.mk (Kd.R_lower ho25 (below_size (by repeat (first | (with_reducible first | exact HB.out | apply below_alloc | apply pw_below_drewN | apply below_drew1) | exact HB.out)))); have n1_ := Aside0.mk (below_step (by repeat (first | (with_reducible first | exact HB.out | apply below_alloc | apply pw_below_drewN | apply below_drew1) | exact HB.out)) hb); clear HB; have HO230 := n0_; have HB := n1_; clear n0_ n1_; clear hb ho25; have p23 : 0 ≤ (0 : Int) := (by omega); have q23 : (0 : Int) < ((y228.length : Int) : Int) := of_decide_eq_true (by first | (with_reducible assumption) | assumption); have qi23 : (0 < y228.length) = True := eq_true (by omega); obtain ⟨go23, co23, eo23, gb23, gl23, cl23, HG23⟩ := Kd.R_form HO230.out (by omega); (first | cases eo23 | (injection eo23 with ea_ en_ ec_; (first | subst ea_ | (injection ea_ with ea_; subst ea_)); subst ec_; clear en_)); have GB23 := Aside0.mk gb23; have GG23 := Aside0.mk HG23; clear gb23 gl23 HG23; obtain ⟨hx23_0, hf23_0⟩ := Kd.R_celln false HO230.out (0 : Int) p23 q23; (try rw [show ((0 : Int)).toNat = 0 from rfl] at hx23_0); (try simp only [Nat.reduceMul, Nat.zero_mul, Nat.zero_add, Nat.reduceAdd] at hx23_0); (try rw [show ((0 : Int)).toNat = 0 from rfl] at hf23_0); (try simp only [Nat.reduceMul, Nat.zero_mul, Nat.zero_add, Nat.reduceAdd] at hf23_0); replace p23 := eq_true p23; replace q23 := eq_true q23; obtain ⟨hy26_, hz26_⟩ := Kd.R_celln false HO230.out (0 : Int) (by omega) (of_decide_eq_true (by first | (with_reducible assumption) | assumption)); (try simp only [Int.reduceToNat, Int.toNat_zero, Int.toNat_ofNat, Nat.reduceMul, Nat.zero_mul, Nat.zero_add] at hy26_ hz26_); (try rw [show ((0 : Int)).toNat = 0 from rfl] at hy26_); (try rw [show ((0 : Int)).toNat = 0 from rfl] at hz26_); have HP26 := Kd.R_putg HO230.out (0 : Int) true) | ((with_reducible refine gate_store (t := 4) (p := 62) rfl ?_); (try (rw [drewN_self w24]; generalize hq_ : World.drewN w24 _ = w24; have n0_ := Aside0.mk (Kd.R_at hq_ HO230.out); have n1_ := Aside0.mk (below_at hq_ HB.out); clear hq_ HO230 HB; have HO230 := n0_; have HB := n1_; clear n0_ n1_; (try (obtain ⟨hy26_, hz26_⟩ := Kd.R_celln false HO230.out (0 : Int) (by omega) (of_decide_eq_true (by first | (with_reducible assumption) | assumption)))); (try (try simp only [Int.reduceToNat, Int.toNat_zero, Int.toNat_ofNat, Nat.reduceMul, Nat.zero_mul, Nat.zero_add] at hy26_ hz26_)); (try (try rw [show ((0 : Int)).toNat = 0 from rfl] at hy26_)); (try (try rw [show ((0 : Int)).toNat = 0 from rfl] at hz26_)); (try (have HP26 := Kd.R_putg HO230.out (0 : Int) true)))); refine store_event (t := 4) (p := 62) (v := ?vo_w27) (w1 := (w24.setCell ⟨go23, (0 : Int).toNat, none⟩ (.bool true))) ?hg ?ho ?hn ?hr ?_; (case ho => rfl); (case hg => rfl); (case hn => rfl); (case hr => first | (go_simp; done) | (go_simp; rfl)); intro w27 hw; have hg : w24.grownBy w27 (some go23) := (by rw [hw]; exact HP26.2); have hp_ : Kd.R Kd.bool 4 w27 w.heap.size (fun _ => True) (.slice (some ⟨go23, 0, none⟩) y228.length co23) y231 := (by rw [hw, Ny231.out]; exact HP26.1); clear HP26; have n0_ := Aside0.mk (hp_); have n1_ := Aside0.mk ((by rw [hw]; exact below_set (HB.out) GB23.out : Below w.heap.size w w27)); clear HO230; clear HB; have HO230 := n0_; have HB := n1_; clear n0_ n1_; clear hg hw hp_)); try go_wp2_with (first | (go_at_call 41; (with_reducible refine (barrowref02_Good.calls k1 a1 true _ A17.out).mono ?_); rintro e w' ⟨rfl, ⟨nd, rfl⟩⟩; (try first | exact ⟨rfl, _, World.drewN_drewN _ _ _⟩ | exact ⟨rfl, _, Eq.trans (World.drewN_drewN _ _ _) (congrArg (World.drewN _) (Nat.add_assoc _ _ _))⟩)) | ((with_reducible refine gate_dst (N := 60) rfl ?_); refine Kd.R_make Kd.bool _ 4 rfl (N := 60) rfl 40 _ _ rfl ji19 rfl rfl Tryz.underlying40 (.bool false) 1 info4 rfl (by decide) (by omega) false (ok := fun _ => True) (okp := fun _ => True) rfl (fun _ hk => hk) trivial (of_decide_eq_true (by first | (with_reducible assumption) | assumption)) (Nat.le_trans (Nat.mul_le_mul_right _ (of_decide_eq_true (by first | (with_reducible assumption) | assumption) : ji19.toNat ≤ 281474976710656)) (by omega)) (Below.refl _ _) (Nat.le_refl _) ?_; intro v229 w24 ho25 hb hg_ hnew_; clear hg_ hnew_; (first | rw [← Ny228.out] at ho25 | (simp only [Int.reduceToNat] at ho25; rw [← Ny228.out] at ho25)); have n0_ := Aside0.mk (Kd.R_lower ho25 (below_size (by repeat (first | (with_reducible first | exact HB.out | apply below_alloc | apply pw_below_drewN | apply below_drew1) | exact HB.out)))); have n1_ := Aside0.mk (below_step (by repeat (first | (with_reducible first | exact HB.out | apply below_alloc | apply pw_below_drewN | apply below_drew1) | exact HB.out)) hb); clear HB; have HO230 := n0_; have HB := n1_; clear n0_ n1_; clear hb ho25; have p23 : 0 ≤ (0 : Int) := (by omega); have q23 : (0 : Int) < ((y228.length : Int) : Int) := of_decide_eq_true (by first | (with_reducible assumption) | assumption); have qi23 : (0 < y228.length) = True := eq_true (by omega); obtain ⟨go23, co23, eo23, gb23, gl23, cl23, HG23⟩ := Kd.R_form HO230.out (by omega); (first | cases eo23 | (injection eo23 with ea_ en_ ec_; (first | subst ea_ | (injection ea_ with ea_; subst ea_)); subst ec_; clear en_)); have GB23 := Aside0.mk gb23; have GG23 := Aside0.mk HG23; clear gb23 gl23 HG23; obtain ⟨hx23_0, hf23_0⟩ := Kd.R_celln false HO230.out (0 : Int) p23 q23; (try rw [show ((0 : Int)).toNat = 0 from rfl] at hx23_0); (try simp only [Nat.reduceMul, Nat.zero_mul, Nat.zero_add, Nat.reduceAdd] at hx23_0); (try rw [show ((0 : Int)).toNat = 0 from rfl] at hf23_0); (try simp only [Nat.reduceMul, Nat.zero_mul, Nat.zero_add, Nat.reduceAdd] at hf23_0); replace p23 := eq_true p23; replace q23 := eq_true q23; obtain ⟨hy26_, hz26_⟩ := Kd.R_celln false HO230.out (0 : Int) (by omega) (of_decide_eq_true (by first | (with_reducible assumption) | assumption)); (try simp only [Int.reduceToNat, Int.toNat_zero, Int.toNat_ofNat, Nat.reduceMul, Nat.zero_mul, Nat.zero_add] at hy26_ hz26_); (try rw [show ((0 : Int)).toNat = 0 from rfl] at hy26_); (try rw [show ((0 : Int)).toNat = 0 from rfl] at hz26_); have HP26 := Kd.R_putg HO230.out (0 : Int) true) | ((with_reducible refine gate_store (t := 4) (p := 62) rfl ?_); (try (rw [drewN_self w24]; generalize hq_ : World.drewN w24 _ = w24; have n0_ := Aside0.mk (Kd.R_at hq_ HO230.out); have n1_ := Aside0.mk (below_at hq_ HB.out); clear hq_ HO230 HB; have HO230 := n0_; have HB := n1_; clear n0_ n1_; (try (obtain ⟨hy26_, hz26_⟩ := Kd.R_celln false HO230.out (0 : Int) (by omega) (of_decide_eq_true (by first | (with_reducible assumption) | assumption)))); (try (try simp only [Int.reduceToNat, Int.toNat_zero, Int.toNat_ofNat, Nat.reduceMul, Nat.zero_mul, Nat.zero_add] at hy26_ hz26_)); (try (try rw [show ((0 : Int)).toNat = 0 from rfl] at hy26_)); (try (try rw [show ((0 : Int)).toNat = 0 from rfl] at hz26_)); (try (have HP26 := Kd.R_putg HO230.out (0 : Int) true)))); refine store_event (t := 4) (p := 62) (v := ?vo_w27) (w1 := (w24.setCell ⟨go23, (0 : Int).toNat, none⟩ (.bool true))) ?hg ?ho ?hn ?hr ?_; (case ho => rfl); (case hg => rfl); (case hn => rfl); (case hr => first | (go_simp; done) | (go_simp; rfl)); intro w27 hw; have hg : w24.grownBy w27 (some go23) := (by rw [hw]; exact HP26.2); have hp_ : Kd.R Kd.bool 4 w27 w.heap.size (fun _ => True) (.slice (some ⟨go23, 0, none⟩) y228.length co23) y231 := (by rw [hw, Ny231.out]; exact HP26.1); clear HP26; have n0_ := Aside0.mk (hp_); have n1_ := Aside0.mk ((by rw [hw]; exact below_set (HB.out) GB23.out : Below w.heap.size w w27)); clear HO230; clear HB; have HO230 := n0_; have HB := n1_; clear n0_ n1_; clear hg hw hp_)))
         go_loopg [8, 9] k1 (fun kq v8 v9 w' => ∃ (x8_2 : List Bool) (x9_2 : Int), v9 = .int .i64 x9_2 ∧ Aside0 (barrowref02_Match.l1 kq a0 a1 x8_2 x9_2 = some (r1, r2)) ∧ Aside0 (kq ≤ k1) ∧ Aside0 (Kd.R Kd.bool 4 w' w.heap.size (fun _ => True) v8 x8_2) ∧ Aside0 (Below w.heap.size w w'))
         case atStart => exact ⟨(y231), (0), (by first | rfl | (simp; done) | (simp [*]; done)), H', ⟨Nat.le_refl _⟩, ⟨by (with_reducible repeat (first | apply Kd.R_alloc | apply Kd.R_drewN | apply Kd.R_drew)); exact HO230.out⟩, ⟨by repeat (first | (with_reducible first | exact HB.out | apply below_alloc | apply pw_below_drewN | apply below_drew1) | exact HB.out)⟩⟩
         case round =>
          clear H'
          try clear c1
          try clear c2
          try clear p2
          try clear q2
          try clear hx2
          try clear qi2
          try clear hf2
          try clear c3
          try clear c3b0
          try clear c3b1
          try clear c4
          try clear c4b0
          try clear c5
          try clear c5b0
          try clear p6
          try clear q6
          try clear hx6
          try clear c8
          try clear c10
          try clear c12
          try clear c13
          try clear c13b0
          try clear c13b1
          try clear c14
          try clear c14b0
          try clear c14b1
          try clear c15
          try clear c15b0
          try clear c15b1
          try clear c16
          try clear c16b0
          try clear c16b1
          try clear c18
          try clear c20
          try clear c20b0
          try clear c20b1
          try clear c21
          try clear c21b0
          try clear c21b1
          try clear c22
          try clear c22b0
          try clear c22b1
          try clear p23
          try clear q23
          try clear hx23
          try clear qi23
          try clear hf23
          try clear hx23_0
          try clear p2
          try clear p23
          try clear p6
          try clear q23
          try clear q6
          obtain ⟨x8_2, x9_2, rfl, HA, HK2, HO_8, HB⟩ := hrel
          cases gk with
          | zero => exact absurd HA.out (by simp [barrowref02_Match.l1])
          | succ k2 =>
           have H := HA.out
           clear HA
           simp only [barrowref02_Match.l1] at H
           by_cases c28 : x9_2 < (a0.size : Int)
           ·rw [if_pos c28] at H
            have c28b0 : decide (x9_2 < (a0.size : Int)) = true := decide_eq_true c28
            clear c28
            obtain ⟨ji29, hji29⟩ : ∃ j_ : Int, (wrap64 ((a1.size : Int) + 1)) = j_ := ⟨_, rfl⟩
            replace H : (if 0 ≤ (ji29) then (if (ji29 : Int).toNat ≤ 281474976710656 then (barrowref02_Match.l2 k2 a0 a1 x8_2 x9_2 (List.replicate (ji29 : Int).toNat false) false 0) else (none)) else (none)) = some (r1, r2) := by first | (rw [hji29] at H; exact H) | (simp only [hji29] at H ⊢; exact H)
            have hji29w : (IntKind.i64.wrap ((a1.size : Int) + 1)) = ji29 := (i64_w _).trans hji29
            (try (obtain rfl : ji29 = ji19 := hji29.symm.trans hji19))
            by_cases c30 : 0 ≤ (ji29)
            ·rw [if_pos c30] at H
             have c30b0 := eq_true c30
             have c30b1 : decide (0 ≤ (ji29)) = true := decide_eq_true c30
             clear c30
             by_cases c31 : (ji29 : Int).toNat ≤ 281474976710656
             ·rw [if_pos c31] at H
              have c31b0 := eq_true c31
              have c31b1 : decide ((ji29 : Int).toNat ≤ 281474976710656) = true := decide_eq_true c31
              clear c31
              obtain ⟨y233, hy233⟩ : ∃ y_ : List Bool, y_ = (List.replicate (ji29 : Int).toNat false) := ⟨_, rfl⟩
              replace H : (barrowref02_Match.l2 k2 a0 a1 x8_2 x9_2 y233 false 0) = some (r1, r2) := by first | (rw [hy233]; with_reducible exact H) | (have H2_ := (Option.bind_some _ _).symm.trans H; rw [hy233]; with_reducible exact H2_) | (have H2_ := (Option.bind_some _ _).symm.trans H; with_reducible exact H2_) | with_reducible exact H | (rw [hy233]; exact H) | exact H
              have Ny233 := Aside0.mk hy233
              clear hy233
              have H' := Aside0.mk H
              clear H
              go_wp2_with (first | ((with_reducible refine gate_dst (N := 72) rfl ?_); refine Kd.R_make Kd.bool _ 4 rfl (N := 72) rfl 40 _ _ rfl ji29 rfl rfl Tryz.underlying40 (.bool false) 1 info4 rfl (by decide) (by omega) false (ok := fun _ => True) (okp := fun _ => True) rfl (fun _ hk => hk) trivial (of_decide_eq_true (by first | (with_reducible assumption) | assumption)) (Nat.le_trans (Nat.mul_le_mul_right _ (of_decide_eq_true (by first | (with_reducible assumption) | assumption) : ji29.toNat ≤ 281474976710656)) (by omega)) (Below.refl _ _) (Nat.le_refl _) ?_; intro v234 w32 ho33 hb hg_ hnew_; clear hg_ hnew_; (first | rw [← Ny233.out] at ho33 | (simp only [Int.reduceToNat] at ho33; rw [← Ny233.out] at ho33)); have n0_ := Aside0.mk (Kd.R_elder' (by (with_reducible repeat (first | apply Kd.R_alloc | apply Kd.R_drewN | apply Kd.R_drew)); exact HO_8.out) (Kd.R_base ho33) hb); have n1_ := Aside0.mk (Kd.R_lower (Kd.R_new' ho33 (Kd.R_lt (by (with_reducible repeat (first | apply Kd.R_alloc | apply Kd.R_drewN | apply Kd.R_drew)); exact HO_8.out))) (below_size (by repeat (first | (with_reducible first | exact HB.out | apply below_alloc | apply pw_below_drewN | apply below_drew1) | exact HB.out)))); have n2_ := Aside0.mk (below_step (by repeat (first | (with_reducible first | exact HB.out | apply below_alloc | apply pw_below_drewN | apply below_drew1) | exact HB.out)) hb); clear HO_8; clear HB; have HO_8 := n0_; have HO235 := n1_; have HB := n2_; clear n0_ n1_ n2_; clear hb ho33))
              repeat (go_quiet (first | ((with_reducible refine gate_dst (N := 72) rfl ?_); refine Kd.R_make Kd.bool _ 4 rfl (N := 72) rfl 40 _ _ rfl ji29 rfl rfl Tryz.underlying40 (.bool false) 1 info4 rfl (by decide) (by omega) false (ok := fun _ => True) (okp := fun _ => True) rfl (fun _ hk => hk) trivial (of_decide_eq_true (by first | (with_reducible assumption) | assumption)) (Nat.le_trans (Nat.mul_le_mul_right _ (of_decide_eq_true (by first | (with_reducible assumption) | assumption) : ji29.toNat ≤ 281474976710656)) (by omega)) (Below.refl _ _) (Nat.le_refl _) ?_; intro v234 w32 ho33 hb hg_ hnew_; clear hg_ hnew_; (first | rw [← Ny233.out] at ho33 | (simp only [Int.reduceToNat] at ho33; rw [← Ny233.out] at ho33)); have n0_ := Aside0.mk (Kd.R_elder' (by (with_reducible repeat (first | apply Kd.R_alloc | apply Kd.R_drewN | apply Kd.R_drew)); exact HO_8.out) (Kd.R_base ho33) hb); have n1_ := Aside0.mk (Kd.R_lower (Kd.R_new' ho33 (Kd.R_lt (by (with_reducible repeat (first | apply Kd.R_alloc | apply Kd.R_drewN | apply Kd.R_drew)); exact HO_8.out))) (below_size (by repeat (first | (with_reducible first | exact HB.out | apply below_alloc | apply pw_below_drewN | apply below_drew1) | exact HB.out)))); have n2_ := Aside0.mk (below_step (by repeat (first | (with_reducible first | exact HB.out | apply below_alloc | apply pw_below_drewN | apply below_drew1) | exact HB.out)) hb); clear HO_8; clear HB; have HO_8 := n0_; have HO235 := n1_; have HB := n2_; clear n0_ n1_ n2_; clear hb ho33)); try go_wp2_with (first | ((with_reducible refine gate_dst (N := 72) rfl ?_); refine Kd.R_make Kd.bool _ 4 rfl (N := 72) rfl 40 _ _ rfl ji29 rfl rfl Tryz.underlying40 (.bool false) 1 info4 rfl (by decide) (by omega) false (ok := fun _ => True) (okp := fun _ => True) rfl (fun _ hk => hk) trivial (of_decide_eq_true (by first | (with_reducible assumption) | assumption)) (Nat.le_trans (Nat.mul_le_mul_right _ (of_decide_eq_true (by first | (with_reducible assumption) | assumption) : ji29.toNat ≤ 281474976710656)) (by omega)) (Below.refl _ _) (Nat.le_refl _) ?_; intro v234 w32 ho33 hb hg_ hnew_; clear hg_ hnew_; (first | rw [← Ny233.out] at ho33 | (simp only [Int.reduceToNat] at ho33; rw [← Ny233.out] at ho33)); have n0_ := Aside0.mk (Kd.R_elder' (by (with_reducible repeat (first | apply Kd.R_alloc | apply Kd.R_drewN | apply Kd.R_drew)); exact HO_8.out) (Kd.R_base ho33) hb); have n1_ := Aside0.mk (Kd.R_lower (Kd.R_new' ho33 (Kd.R_lt (by (with_reducible repeat (first | apply Kd.R_alloc | apply Kd.R_drewN | apply Kd.R_drew)); exact HO_8.out))) (below_size (by repeat (first | (with_reducible first | exact HB.out | apply below_alloc | apply pw_below_drewN | apply below_drew1) | exact HB.out)))); have n2_ := Aside0.mk (below_step (by repeat (first | (with_reducible first | exact HB.out | apply below_alloc | apply pw_below_drewN | apply below_drew1) | exact HB.out)) hb); clear HO_8; clear HB; have HO_8 := n0_; have HO235 := n1_; have HB := n2_; clear n0_ n1_ n2_; clear hb ho33)))
              go_loopg [11, 12] k2 (fun kq v11 v12 w' => ∃ (x10_3 : List Bool) (x11_3 : Bool) (x12_3 : Int), v11 = .bool x11_3 ∧ v12 = .int .i64 x12_3 ∧ Aside0 (barrowref02_Match.l2 kq a0 a1 x8_2 x9_2 x10_3 x11_3 x12_3 = some (r1, r2)) ∧ Aside0 (kq ≤ k2) ∧ Aside0 (Kd.R Kd.bool 4 w' w.heap.size (fun k_ => some k_ ≠ (v234 : Value).ownBlock) u8 x8_2) ∧ Aside0 (Kd.R Kd.bool 4 w' w.heap.size (fun k_ => some k_ ≠ (u8 : Value).ownBlock) v234 x10_3) ∧ Aside0 (Below w.heap.size w w'))
              case atStart => exact ⟨(y233), (false), (0), (by first | rfl | (simp; done) | (simp [*]; done)), (by first | rfl | (simp; done) | (simp [*]; done)), H', ⟨Nat.le_refl _⟩, ⟨by (with_reducible repeat (first | apply Kd.R_alloc | apply Kd.R_drewN | apply Kd.R_drew)); exact Kd.R_mono HO_8.out (fun _ hk => hk.2)⟩, ⟨by (with_reducible repeat (first | apply Kd.R_alloc | apply Kd.R_drewN | apply Kd.R_drew)); exact Kd.R_mono HO235.out (fun _ hk => hk.2)⟩, ⟨by repeat (first | (with_reducible first | exact HB.out | apply below_alloc | apply pw_below_drewN | apply below_drew1) | exact HB.out)⟩⟩
              case round =>
               clear H'
               try clear c1
               try clear c2
               try clear p2
               try clear q2
               try clear hx2
               try clear qi2
               try clear hf2
               try clear c3
               try clear c3b0
               try clear c3b1
               try clear c4
               try clear c4b0
               try clear c5
               try clear c5b0
               try clear p6
               try clear q6
               try clear hx6
               try clear c8
               try clear c10
               try clear c12
               try clear c13
               try clear c13b0
               try clear c13b1
               try clear c14
               try clear c14b0
               try clear c14b1
               try clear c15
               try clear c15b0
               try clear c15b1
               try clear c16
               try clear c16b0
               try clear c16b1
               try clear c18
               try clear c20
               try clear c20b0
               try clear c20b1
               try clear c21
               try clear c21b0
               try clear c21b1
               try clear c22
               try clear c22b0
               try clear c22b1
               try clear p23
               try clear q23
               try clear hx23
               try clear qi23
               try clear hf23
               try clear c28
               try clear c28b0
               try clear c30
               try clear c30b0
               try clear c30b1
               try clear c31
               try clear c31b0
               try clear c31b1
               try clear hx23_0
               try clear p2
               try clear p23
               try clear p6
               try clear q2
               try clear q23
               try clear q6
               obtain ⟨x10_3, x11_3, x12_3, rfl, rfl, HA, HK3, HO_8, HO_10, HB⟩ := hrel
               cases gk with
               | zero => exact absurd HA.out (by simp [barrowref02_Match.l2])
               | succ k3 =>
                have H := HA.out
                clear HA
                simp only [barrowref02_Match.l2] at H
                by_cases c34 : x12_3 ≤ (a1.size : Int)
                ·rw [if_pos c34] at H
                 have c34b0 : decide (x12_3 ≤ (a1.size : Int)) = true := decide_eq_true c34
                 clear c34
                 have HC35 := Aside0.mk H
                 clear H
                 go_upto_region 21 with (fail)
                 repeat (go_quiet (fail); go_upto_region 21 with (fail))
                 go_cut [11] (fun v11 wc => ∃ (kq : Nat) (x11_34 : Bool), v11 = .bool x11_34 ∧ Aside0 (barrowref02_Match.j3 kq a0 a1 x8_2 x9_2 x10_3 x11_34 x12_3 = some (r1, r2)) ∧ Aside0 (kq ≤ k3) ∧ Aside0 (Kd.R Kd.bool 4 wc w.heap.size (fun k_ => some k_ ≠ (v234 : Value).ownBlock) u8 x8_2) ∧ Aside0 (Kd.R Kd.bool 4 wc w.heap.size (fun k_ => some k_ ≠ (u8 : Value).ownBlock) v234 x10_3) ∧ Aside0 (Below w.heap.size w wc))
                 case first =>
                  have H := HC35.out
                  clear HC35
                  by_cases c36 : x11_3 = true
                  ·subst c36
                   have H1 : (barrowref02_Match.j3 k3 a0 a1 x8_2 x9_2 x10_3 true x12_3) = some (r1, r2) := by rw [if_pos rfl] at H; exact H
                   clear H
                   have H := H1
                   clear H1
                   have H' := Aside0.mk H
                   clear H
                   go_wp2
                   repeat (go_quiet (fail); try go_wp2)
                   go_meet
                   case rel => exact ⟨_, (true), (by first | rfl | (simp; done) | (simp [*]; done)), H', ⟨by have := HK1.out; have := HK2.out; have := HK3.out; first | omega | exact Nat.le_refl _⟩, ⟨by (with_reducible repeat (first | apply Kd.R_alloc | apply Kd.R_drewN | apply Kd.R_drew)); exact HO_8.out⟩, ⟨by (with_reducible repeat (first | apply Kd.R_alloc | apply Kd.R_drewN | apply Kd.R_drew)); exact HO_10.out⟩, ⟨by repeat (first | (with_reducible first | exact HB.out | apply below_alloc | apply pw_below_drewN | apply below_drew1) | exact HB.out)⟩⟩
                  ·replace c36 := Bool.eq_false_iff.mpr c36
                   subst c36
                   have H1 : (if 0 ≤ x12_3 then (if x12_3 < (x8_2.length : Int) then (barrowref02_Match.j3 k3 a0 a1 x8_2 x9_2 x10_3 (rdOf false x8_2 x12_3) x12_3) else (none)) else (none)) = some (r1, r2) := by rw [if_neg (show ¬ (false = true) by decide)] at H; exact H
                   clear H
                   have H := H1
                   clear H1
                   by_cases c37 : 0 ≤ x12_3
                   ·rw [if_pos c37] at H
                    have c37b0 : decide (0 ≤ x12_3) = true := decide_eq_true c37
                    clear c37
                    (first | rw [c37b0] | (simp only [i64_w, i32_w]; rw [c37b0]) | skip)
                    by_cases c38 : x12_3 < (x8_2.length : Int)
                    ·rw [if_pos c38] at H
                     have c38b0 : decide (x12_3 < (x8_2.length : Int)) = true := decide_eq_true c38
                     clear c38
                     have H' := Aside0.mk H
                     clear H
                     obtain ⟨Ao39, co39, eo39⟩ := Kd.R_slice HO_8.out
                     subst eo39
                     have p236 : 0 ≤ (x12_3 : Int) := of_decide_eq_true (by first | (with_reducible assumption) | assumption)
                     have q236 : x12_3 < (x8_2.length : Int) := of_decide_eq_true (by first | (with_reducible assumption) | assumption)
                     obtain ⟨ad236, e236, hx236_0⟩ := Kd.at_bool (Kd.R_reads' HO_8.out).2.2 x12_3 p236 q236
                     cases e236
                     replace p236 := eq_true p236
                     replace q236 := eq_true q236
                     go_wp2
                     repeat (go_quiet (fail); try go_wp2)
                     go_meet
                     case rel => exact ⟨_, (rdOf false x8_2 x12_3), (by first | rfl | (simp; done) | (simp [*]; done)), H', ⟨by have := HK1.out; have := HK2.out; have := HK3.out; first | omega | exact Nat.le_refl _⟩, ⟨by (with_reducible repeat (first | apply Kd.R_alloc | apply Kd.R_drewN | apply Kd.R_drew)); exact HO_8.out⟩, ⟨by (with_reducible repeat (first | apply Kd.R_alloc | apply Kd.R_drewN | apply Kd.R_drew)); exact HO_10.out⟩, ⟨by repeat (first | (with_reducible first | exact HB.out | apply below_alloc | apply pw_below_drewN | apply below_drew1) | exact HB.out)⟩⟩
                    ·rw [if_neg c38] at H
                     exact absurd H (by simp)
                   ·rw [if_neg c37] at H
                    exact absurd H (by simp)
                 case rest =>
                  clear HC35
                  try clear c1
                  try clear c2
                  try clear p2
                  try clear q2
                  try clear hx2
                  try clear qi2
                  try clear hf2
                  try clear c3
                  try clear c3b0
                  try clear c3b1
                  try clear c4
                  try clear c4b0
                  try clear c5
                  try clear c5b0
                  try clear p6
                  try clear q6
                  try clear hx6
                  try clear c8
                  try clear c10
                  try clear c12
                  try clear c13
                  try clear c13b0
                  try clear c13b1
                  try clear c14
                  try clear c14b0
                  try clear c14b1
                  try clear c15
                  try clear c15b0
                  try clear c15b1
                  try clear c16
                  try clear c16b0
                  try clear c16b1
                  try clear c18
                  try clear c20
                  try clear c20b0
                  try clear c20b1
                  try clear c21
                  try clear c21b0
                  try clear c21b1
                  try clear c22
                  try clear c22b0
                  try clear c22b1
                  try clear p23
                  try clear q23
                  try clear hx23
                  try clear qi23
                  try clear hf23
                  try clear c28
                  try clear c28b0
                  try clear c30
                  try clear c30b0
                  try clear c30b1
                  try clear c31
                  try clear c31b0
                  try clear c31b1
                  try clear c34
                  try clear c34b0
                  try clear c36
                  try clear c37
                  try clear c37b0
                  try clear c38
                  try clear c38b0
                  try clear hx236_0
                  try clear hx23_0
                  try clear p2
                  try clear p23
                  try clear p236
                  try clear p6
                  try clear q2
                  try clear q23
                  try clear q236
                  try clear q6
                  obtain ⟨kq, x11_34, rfl, HA, HJ34, HO_8, HO_10, HB⟩ := hcut
                  cases kq with
                  | zero => exact absurd HA.out (by simp [barrowref02_Match.j3])
                  | succ kj34 =>
                   have H := HA.out
                   clear HA
                   simp only [barrowref02_Match.j3] at H
                   by_cases c40 : 0 ≤ x9_2
                   ·rw [if_pos c40] at H
                    have c40b0 : decide (0 ≤ x9_2) = true := decide_eq_true c40
                    clear c40
                    by_cases c41 : x9_2 < (a0.size : Int)
                    ·rw [if_pos c41] at H
                     have c41b0 : decide (x9_2 < (a0.size : Int)) = true := decide_eq_true c41
                     clear c41
                     by_cases c43 : (bt a0 x9_2) = 42
                     ·rw [if_pos c43] at H
                      have c43b0 : ((bt a0 x9_2) == 42) = true := beq_iff_eq.mpr c43
                      have c43b1 : ((bt a0 x9_2) != 42) = false := bne_eq_false_iff_eq.mpr c43
                      clear c43
                      by_cases c44 : 0 ≤ x12_3
                      ·rw [if_pos c44] at H
                       have c44b0 : decide (0 ≤ x12_3) = true := decide_eq_true c44
                       clear c44
                       by_cases c45 : x12_3 < (x10_3.length : Int)
                       ·rw [if_pos c45] at H
                        have c45b0 : decide (x12_3 < (x10_3.length : Int)) = true := decide_eq_true c45
                        clear c45
                        obtain ⟨y237, hy237⟩ : ∃ y_ : List Bool, y_ = (x10_3.set (x12_3 : Int).toNat x11_34) := ⟨_, rfl⟩
                        replace H : (barrowref02_Match.l2 kj34 a0 a1 x8_2 x9_2 y237 x11_34 (wrap64 (x12_3 + 1))) = some (r1, r2) := by first | (rw [hy237]; with_reducible exact H) | (have H2_ := (Option.bind_some _ _).symm.trans H; rw [hy237]; with_reducible exact H2_) | (have H2_ := (Option.bind_some _ _).symm.trans H; with_reducible exact H2_) | with_reducible exact H | (rw [hy237]; exact H) | exact H
                        have Ny237 := Aside0.mk hy237
                        clear hy237
                        have H' := Aside0.mk H
                        clear H
                        have p42 : 0 ≤ (x9_2 : Int) := of_decide_eq_true (by first | (with_reducible assumption) | assumption)
                        have q42 : x9_2 < (a0.size : Int) := of_decide_eq_true (by first | (with_reducible assumption) | assumption)
                        have hx42 := bt_at a0 x9_2
                        replace p42 := eq_true p42
                        replace q42 := eq_true q42
                        have p46 : 0 ≤ (x12_3 : Int) := of_decide_eq_true (by first | (with_reducible assumption) | assumption)
                        have q46 : (x12_3 : Int) < ((x10_3.length : Int) : Int) := of_decide_eq_true (by first | (with_reducible assumption) | assumption)
                        obtain ⟨go46, co46, eo46, gb46, gl46, cl46, HG46⟩ := Kd.R_form HO_10.out (by omega)
                        (first | cases eo46 | (injection eo46 with ea_ en_ ec_; (first | subst ea_ | (injection ea_ with ea_; subst ea_)); subst ec_; clear en_))
                        have GB46 := Aside0.mk gb46
                        have GG46 := Aside0.mk HG46
                        clear gb46 gl46 HG46
                        obtain ⟨hx46_0, hf46_0⟩ := Kd.R_celln false HO_10.out (x12_3 : Int) p46 q46
                        replace p46 := eq_true p46
                        replace q46 := eq_true q46
                        have HP47 := Kd.R_putg HO_10.out (x12_3 : Int) x11_34
                        go_wp2_with (first | ((with_reducible refine gate_store (t := 4) (p := 93) rfl ?_); (try (rw [drewN_self wc]; generalize hq_ : World.drewN wc _ = wc; have n0_ := Aside0.mk (Kd.R_at hq_ HO_8.out); have n1_ := Aside0.mk (Kd.R_at hq_ HO_10.out); have n2_ := Aside0.mk (below_at hq_ HB.out); clear hq_ HO_8 HO_10 HB; have HO_8 := n0_; have HO_10 := n1_; have HB := n2_; clear n0_ n1_ n2_; (try (have HP47 := Kd.R_putg HO_10.out (x12_3 : Int) x11_34)))); refine store_event (t := 4) (p := 93) (v := ?vo_w48) (w1 := (wc.setCell ⟨go46, (x12_3 : Int).toNat, none⟩ (.bool x11_34))) ?hg ?ho ?hn ?hr ?_; (case ho => rfl); (case hg => rfl); (case hn => rfl); (case hr => first | (go_simp; done) | (go_simp; rfl)); intro w48 hw; have hg : wc.grownBy w48 (some go46) := (by rw [hw]; exact HP47.2); have hp_ : Kd.R Kd.bool 4 w48 w.heap.size (fun k_ => some k_ ≠ (u8 : Value).ownBlock) (.slice (some ⟨go46, 0, none⟩) x10_3.length co46) y237 := (by rw [hw, Ny237.out]; exact HP47.1); clear HP47; have n0_ := Aside0.mk (Kd.R_after (v := (.slice (some ⟨go46, 0, none⟩) x10_3.length co46)) (v1 := (.slice (some ⟨go46, 0, none⟩) x10_3.length co46)) (ok := (fun _ => True)) (by (with_reducible repeat (first | apply Kd.R_alloc | apply Kd.R_drewN | apply Kd.R_drew)); exact Kd.R_mono HO_8.out (fun _ hk => ⟨trivial, hk⟩)) hg (.inl rfl)); have n1_ := Aside0.mk (hp_); have n2_ := Aside0.mk ((by rw [hw]; exact below_set (HB.out) GB46.out : Below w.heap.size w w48)); clear HO_8; clear HO_10; clear HB; have HO_8 := n0_; have HO_10 := n1_; have HB := n2_; clear n0_ n1_ n2_; clear hg hw hp_))
                        repeat (go_quiet (first | ((with_reducible refine gate_store (t := 4) (p := 93) rfl ?_); (try (rw [drewN_self wc]; generalize hq_ : World.drewN wc _ = wc; have n0_ := Aside0.mk (Kd.R_at hq_ HO_8.out); have n1_ := Aside0.mk (Kd.R_at hq_ HO_10.out); have n2_ := Aside0.mk (below_at hq_ HB.out); clear hq_ HO_8 HO_10 HB; have HO_8 := n0_; have HO_10 := n1_; have HB := n2_; clear n0_ n1_ n2_; (try (have HP47 := Kd.R_putg HO_10.out (x12_3 : Int) x11_34)))); refine store_event (t := 4) (p := 93) (v := ?vo_w48) (w1 := (wc.setCell ⟨go46, (x12_3 : Int).toNat, none⟩ (.bool x11_34))) ?hg ?ho ?hn ?hr ?_; (case ho => rfl); (case hg => rfl); (case hn => rfl); (case hr => first | (go_simp; done) | (go_simp; rfl)); intro w48 hw; have hg : wc.grownBy w48 (some go46) := (by rw [hw]; exact HP47.2); have hp_ : Kd.R Kd.bool 4 w48 w.heap.size (fun k_ => some k_ ≠ (u8 : Value).ownBlock) (.slice (some ⟨go46, 0, none⟩) x10_3.length co46) y237 := (by rw [hw, Ny237.out]; exact HP47.1); clear HP47; have n0_ := Aside0.mk (Kd.R_after (v := (.slice (some ⟨go46, 0, none⟩) x10_3.length co46)) (v1 := (.slice (some ⟨go46, 0, none⟩) x10_3.length co46)) (ok := (fun _ => True)) (by (with_reducible repeat (first | apply Kd.R_alloc | apply Kd.R_drewN | apply Kd.R_drew)); exact Kd.R_mono HO_8.out (fun _ hk => ⟨trivial, hk⟩)) hg (.inl rfl)); have n1_ := Aside0.mk (hp_); have n2_ := Aside0.mk ((by rw [hw]; exact below_set (HB.out) GB46.out : Below w.heap.size w w48)); clear HO_8; clear HO_10; clear HB; have HO_8 := n0_; have HO_10 := n1_; have HB := n2_; clear n0_ n1_ n2_; clear hg hw hp_)); try go_wp2_with (first | ((with_reducible refine gate_store (t := 4) (p := 93) rfl ?_); (try (rw [drewN_self wc]; generalize hq_ : World.drewN wc _ = wc; have n0_ := Aside0.mk (Kd.R_at hq_ HO_8.out); have n1_ := Aside0.mk (Kd.R_at hq_ HO_10.out); have n2_ := Aside0.mk (below_at hq_ HB.out); clear hq_ HO_8 HO_10 HB; have HO_8 := n0_; have HO_10 := n1_; have HB := n2_; clear n0_ n1_ n2_; (try (have HP47 := Kd.R_putg HO_10.out (x12_3 : Int) x11_34)))); refine store_event (t := 4) (p := 93) (v := ?vo_w48) (w1 := (wc.setCell ⟨go46, (x12_3 : Int).toNat, none⟩ (.bool x11_34))) ?hg ?ho ?hn ?hr ?_; (case ho => rfl); (case hg => rfl); (case hn => rfl); (case hr => first | (go_simp; done) | (go_simp; rfl)); intro w48 hw; have hg : wc.grownBy w48 (some go46) := (by rw [hw]; exact HP47.2); have hp_ : Kd.R Kd.bool 4 w48 w.heap.size (fun k_ => some k_ ≠ (u8 : Value).ownBlock) (.slice (some ⟨go46, 0, none⟩) x10_3.length co46) y237 := (by rw [hw, Ny237.out]; exact HP47.1); clear HP47; have n0_ := Aside0.mk (Kd.R_after (v := (.slice (some ⟨go46, 0, none⟩) x10_3.length co46)) (v1 := (.slice (some ⟨go46, 0, none⟩) x10_3.length co46)) (ok := (fun _ => True)) (by (with_reducible repeat (first | apply Kd.R_alloc | apply Kd.R_drewN | apply Kd.R_drew)); exact Kd.R_mono HO_8.out (fun _ hk => ⟨trivial, hk⟩)) hg (.inl rfl)); have n1_ := Aside0.mk (hp_); have n2_ := Aside0.mk ((by rw [hw]; exact below_set (HB.out) GB46.out : Below w.heap.size w w48)); clear HO_8; clear HO_10; clear HB; have HO_8 := n0_; have HO_10 := n1_; have HB := n2_; clear n0_ n1_ n2_; clear hg hw hp_)))
                        go_roundg kj34
                        case measure => have := HK1.out; have := HK2.out; have := HK3.out; have := HJ34.out; omega
                        case rel => exact ⟨(y237), (x11_34), (wrap64 (x12_3 + 1)), (by first | rfl | (simp; done) | (simp [*]; done)), (by first | rfl | (simp; done) | (simp [*]; done)), H', ⟨by have := HK1.out; have := HK2.out; have := HK3.out; have := HJ34.out; omega⟩, ⟨by (with_reducible repeat (first | apply Kd.R_alloc | apply Kd.R_drewN | apply Kd.R_drew)); exact Kd.R_mono HO_8.out (fun _ hk => hk.2)⟩, ⟨by (with_reducible repeat (first | apply Kd.R_alloc | apply Kd.R_drewN | apply Kd.R_drew)); exact HO_10.out⟩, ⟨by repeat (first | (with_reducible first | exact HB.out | apply below_alloc | apply pw_below_drewN | apply below_drew1) | exact HB.out)⟩⟩
                       ·rw [if_neg c45] at H
                        exact absurd H (by simp)
                      ·rw [if_neg c44] at H
                       exact absurd H (by simp)
                     ·rw [if_neg c43] at H
                      have c43b0 : ((bt a0 x9_2) == 42) = false := beq_eq_false_iff_ne.mpr c43
                      have c43b1 : ((bt a0 x9_2) != 42) = true := bne_iff_ne.mpr c43
                      by_cases c49 : x12_3 > 0
                      ·rw [if_pos c49] at H
                       have c49b0 : decide (0 < x12_3) = true := decide_eq_true c49
                       clear c49
                       obtain ⟨ji50, hji50⟩ : ∃ j_ : Int, (wrap64 (x12_3 - 1)) = j_ := ⟨_, rfl⟩
                       replace H : (if 0 ≤ (ji50) then (if (ji50) < (x8_2.length : Int) then (if rdOf false x8_2 (ji50) = true then (if (ji50) < (a1.size : Int) then ((barrowref02_fits.f (bt a0 x9_2) (bt a1 (ji50))).bind fun t239 => (if t239 = true then (if 0 ≤ x12_3 then (if x12_3 < (x10_3.length : Int) then (barrowref02_Match.l2 kj34 a0 a1 x8_2 x9_2 (x10_3.set (x12_3 : Int).toNat true) x11_34 (wrap64 (x12_3 + 1))) else (none)) else (none)) else (barrowref02_Match.l2 kj34 a0 a1 x8_2 x9_2 x10_3 x11_34 (wrap64 (x12_3 + 1))))) else (none)) else (barrowref02_Match.l2 kj34 a0 a1 x8_2 x9_2 x10_3 x11_34 (wrap64 (x12_3 + 1)))) else (none)) else (none)) = some (r1, r2) := by first | (rw [hji50] at H; exact H) | (simp only [hji50] at H ⊢; exact H)
                       have hji50w : (IntKind.i64.wrap (x12_3 - 1)) = ji50 := (i64_w _).trans hji50
                       by_cases c51 : 0 ≤ (ji50)
                       ·rw [if_pos c51] at H
                        have c51b0 : decide (0 ≤ (ji50)) = true := decide_eq_true c51
                        clear c51
                        by_cases c52 : (ji50) < (x8_2.length : Int)
                        ·rw [if_pos c52] at H
                         have c52b0 : decide ((ji50) < (x8_2.length : Int)) = true := decide_eq_true c52
                         clear c52
                         obtain ⟨bq53, hbq53⟩ : ∃ b_ : Bool, b_ = (rdOf false x8_2 (ji50)) := ⟨_, rfl⟩
                         replace H : (if bq53 = true then (if (ji50) < (a1.size : Int) then ((barrowref02_fits.f (bt a0 x9_2) (bt a1 (ji50))).bind fun t239 => (if t239 = true then (if 0 ≤ x12_3 then (if x12_3 < (x10_3.length : Int) then (barrowref02_Match.l2 kj34 a0 a1 x8_2 x9_2 (x10_3.set (x12_3 : Int).toNat true) x11_34 (wrap64 (x12_3 + 1))) else (none)) else (none)) else (barrowref02_Match.l2 kj34 a0 a1 x8_2 x9_2 x10_3 x11_34 (wrap64 (x12_3 + 1))))) else (none)) else (barrowref02_Match.l2 kj34 a0 a1 x8_2 x9_2 x10_3 x11_34 (wrap64 (x12_3 + 1)))) = some (r1, r2) := by rw [← hbq53] at H; exact H
                         have Nbq53 := Aside0.mk hbq53
                         clear hbq53
                         by_cases c54 : bq53 = true
                         ·subst c54
                          have H1 : (if (ji50) < (a1.size : Int) then ((barrowref02_fits.f (bt a0 x9_2) (bt a1 (ji50))).bind fun t239 => (if t239 = true then (if 0 ≤ x12_3 then (if x12_3 < (x10_3.length : Int) then (barrowref02_Match.l2 kj34 a0 a1 x8_2 x9_2 (x10_3.set (x12_3 : Int).toNat true) x11_34 (wrap64 (x12_3 + 1))) else (none)) else (none)) else (barrowref02_Match.l2 kj34 a0 a1 x8_2 x9_2 x10_3 x11_34 (wrap64 (x12_3 + 1))))) else (none)) = some (r1, r2) := by rw [if_pos rfl] at H; exact H
                          clear H
                          have H := H1
                          clear H1
                          by_cases c56 : (ji50) < (a1.size : Int)
                          ·rw [if_pos c56] at H
                           have c56b0 : decide ((ji50) < (a1.size : Int)) = true := decide_eq_true c56
                           clear c56
                           replace H := Option.bind_eq_some_iff.mp H
                           obtain ⟨t239, A580, H⟩ := H
                           replace H : (if t239 = true then (if 0 ≤ x12_3 then (if x12_3 < (x10_3.length : Int) then (barrowref02_Match.l2 kj34 a0 a1 x8_2 x9_2 (x10_3.set (x12_3 : Int).toNat true) x11_34 (wrap64 (x12_3 + 1))) else (none)) else (none)) else (barrowref02_Match.l2 kj34 a0 a1 x8_2 x9_2 x10_3 x11_34 (wrap64 (x12_3 + 1)))) = some (r1, r2) := H
                           have A58 := Aside0.mk A580
                           clear A580
                           by_cases c59 : t239 = true
                           ·subst c59
                            have H1 : (if 0 ≤ x12_3 then (if x12_3 < (x10_3.length : Int) then (barrowref02_Match.l2 kj34 a0 a1 x8_2 x9_2 (x10_3.set (x12_3 : Int).toNat true) x11_34 (wrap64 (x12_3 + 1))) else (none)) else (none)) = some (r1, r2) := by rw [if_pos rfl] at H; exact H
                            clear H
                            have H := H1
                            clear H1
                            by_cases c60 : 0 ≤ x12_3
                            ·rw [if_pos c60] at H
                             have c60b0 : decide (0 ≤ x12_3) = true := decide_eq_true c60
                             clear c60
                             by_cases c61 : x12_3 < (x10_3.length : Int)
                             ·rw [if_pos c61] at H
                              have c61b0 : decide (x12_3 < (x10_3.length : Int)) = true := decide_eq_true c61
                              clear c61
                              obtain ⟨y240, hy240⟩ : ∃ y_ : List Bool, y_ = (x10_3.set (x12_3 : Int).toNat true) := ⟨_, rfl⟩
                              replace H : (barrowref02_Match.l2 kj34 a0 a1 x8_2 x9_2 y240 x11_34 (wrap64 (x12_3 + 1))) = some (r1, r2) := by first | (rw [hy240]; with_reducible exact H) | (have H2_ := (Option.bind_some _ _).symm.trans H; rw [hy240]; with_reducible exact H2_) | (have H2_ := (Option.bind_some _ _).symm.trans H; with_reducible exact H2_) | with_reducible exact H | (rw [hy240]; exact H) | exact H
                              have Ny240 := Aside0.mk hy240
                              clear hy240
                              have H' := Aside0.mk H
                              clear H
                              have p42 : 0 ≤ (x9_2 : Int) := of_decide_eq_true (by first | (with_reducible assumption) | assumption)
                              have q42 : x9_2 < (a0.size : Int) := of_decide_eq_true (by first | (with_reducible assumption) | assumption)
                              have hx42 := bt_at a0 x9_2
                              replace p42 := eq_true p42
                              replace q42 := eq_true q42
                              obtain ⟨Ao63, co63, eo63⟩ := Kd.R_slice HO_8.out
                              subst eo63
                              have p238 : 0 ≤ ((ji50) : Int) := of_decide_eq_true (by first | (with_reducible assumption) | assumption)
                              have q238 : (ji50) < (x8_2.length : Int) := of_decide_eq_true (by first | (with_reducible assumption) | assumption)
                              obtain ⟨ad238, e238, hx238_0⟩ := Kd.at_bool (Kd.R_reads' HO_8.out).2.2 (ji50) p238 q238
                              (try rw [← Nbq53.out] at hx238_0)
                              cases e238
                              replace p238 := eq_true p238
                              replace q238 := eq_true q238
                              have p55 : 0 ≤ (x9_2 : Int) := of_decide_eq_true (by first | (with_reducible assumption) | assumption)
                              have q55 : x9_2 < (a0.size : Int) := of_decide_eq_true (by first | (with_reducible assumption) | assumption)
                              have hx55 := bt_at a0 x9_2
                              replace p55 := eq_true p55
                              replace q55 := eq_true q55
                              have p57 : 0 ≤ ((ji50) : Int) := of_decide_eq_true (by first | (with_reducible assumption) | assumption)
                              have q57 : (ji50) < (a1.size : Int) := of_decide_eq_true (by first | (with_reducible assumption) | assumption)
                              have hx57 := bt_at a1 (ji50)
                              replace p57 := eq_true p57
                              replace q57 := eq_true q57
                              go_wp2_with (first | (go_at_call 81; (with_reducible refine (barrowref02_fits.calls (bt a0 x9_2) (bt a1 (ji50)) true _ A58.out).mono ?_); rintro e w' ⟨rfl, ⟨nd, rfl⟩⟩; (try first | exact ⟨rfl, _, World.drewN_drewN _ _ _⟩ | exact ⟨rfl, _, Eq.trans (World.drewN_drewN _ _ _) (congrArg (World.drewN _) (Nat.add_assoc _ _ _))⟩); have p62 : 0 ≤ (x12_3 : Int) := of_decide_eq_true (by first | (with_reducible assumption) | assumption); have q62 : (x12_3 : Int) < ((x10_3.length : Int) : Int) := of_decide_eq_true (by first | (with_reducible assumption) | assumption); obtain ⟨go62, co62, eo62, gb62, gl62, cl62, HG62⟩ := Kd.R_form HO_10.out (by omega); (first | cases eo62 | (injection eo62 with ea_ en_ ec_; (first | subst ea_ | (injection ea_ with ea_; subst ea_)); subst ec_; clear en_)); have GB62 := Aside0.mk gb62; have GG62 := Aside0.mk HG62; clear gb62 gl62 HG62; obtain ⟨hx62_0, hf62_0⟩ := Kd.R_celln false HO_10.out (x12_3 : Int) p62 q62; replace p62 := eq_true p62; replace q62 := eq_true q62; obtain ⟨hy64_, hz64_⟩ := Kd.R_celln false HO_10.out (x12_3 : Int) (of_decide_eq_true (by first | (with_reducible assumption) | assumption)) (of_decide_eq_true (by first | (with_reducible assumption) | assumption)); have HP64 := Kd.R_putg HO_10.out (x12_3 : Int) true) | ((with_reducible refine gate_store (t := 4) (p := 115) rfl ?_); (try (rw [drewN_self wc]; generalize hq_ : World.drewN wc _ = wc; have n0_ := Aside0.mk (Kd.R_at hq_ HO_8.out); have n1_ := Aside0.mk (Kd.R_at hq_ HO_10.out); have n2_ := Aside0.mk (below_at hq_ HB.out); clear hq_ HO_8 HO_10 HB; have HO_8 := n0_; have HO_10 := n1_; have HB := n2_; clear n0_ n1_ n2_; (try (obtain ⟨hy64_, hz64_⟩ := Kd.R_celln false HO_10.out (x12_3 : Int) (of_decide_eq_true (by first | (with_reducible assumption) | assumption)) (of_decide_eq_true (by first | (with_reducible assumption) | assumption)))); (try (have HP64 := Kd.R_putg HO_10.out (x12_3 : Int) true)))); refine store_event (t := 4) (p := 115) (v := ?vo_w65) (w1 := (wc.setCell ⟨go62, (x12_3 : Int).toNat, none⟩ (.bool true))) ?hg ?ho ?hn ?hr ?_; (case ho => rfl); (case hg => rfl); (case hn => rfl); (case hr => first | (go_simp; done) | (go_simp; rfl)); intro w65 hw; have hg : wc.grownBy w65 (some go62) := (by rw [hw]; exact HP64.2); have hp_ : Kd.R Kd.bool 4 w65 w.heap.size (fun k_ => some k_ ≠ (.slice (some ad238) x8_2.length co63 : Value).ownBlock) (.slice (some ⟨go62, 0, none⟩) x10_3.length co62) y240 := (by rw [hw, Ny240.out]; exact HP64.1); clear HP64; have n0_ := Aside0.mk (Kd.R_after (v := (.slice (some ⟨go62, 0, none⟩) x10_3.length co62)) (v1 := (.slice (some ⟨go62, 0, none⟩) x10_3.length co62)) (ok := (fun _ => True)) (by (with_reducible repeat (first | apply Kd.R_alloc | apply Kd.R_drewN | apply Kd.R_drew)); exact Kd.R_mono HO_8.out (fun _ hk => ⟨trivial, hk⟩)) hg (.inl rfl)); have n1_ := Aside0.mk (hp_); have n2_ := Aside0.mk ((by rw [hw]; exact below_set (HB.out) GB62.out : Below w.heap.size w w65)); clear HO_8; clear HO_10; clear HB; have HO_8 := n0_; have HO_10 := n1_; have HB := n2_; clear n0_ n1_ n2_; clear hg hw hp_))
                              repeat (go_quiet (first | (go_at_call 81; (with_reducible refine (barrowref02_fits.calls (bt a0 x9_2) (bt a1 (ji50)) true _ A58.out).mono ?_); rintro e w' ⟨rfl, ⟨nd, rfl⟩⟩; (try first | exact ⟨rfl, _, World.drewN_drewN _ _ _⟩ | exact ⟨rfl, _, Eq.trans (World.drewN_drewN _ _ _) (congrArg (World.drewN _) (Nat.add_assoc _ _ _))⟩); have p62 : 0 ≤ (x12_3 : Int) := of_decide_eq_true (by first | (with_reducible assumption) | assumption); have q62 : (x12_3 : Int) < ((x10_3.length : Int) : Int) := of_decide_eq_true (by first | (with_reducible assumption) | assumption); obtain ⟨go62, co62, eo62, gb62, gl62, cl62, HG62⟩ := Kd.R_form HO_10.out (by omega); (first | cases eo62 | (injection eo62 with ea_ en_ ec_; (first | subst ea_ | (injection ea_ with ea_; subst ea_)); subst ec_; clear en_)); have GB62 := Aside0.mk gb62; have GG62 := Aside0.mk HG62; clear gb62 gl62 HG62; obtain ⟨hx62_0, hf62_0⟩ := Kd.R_celln false HO_10.out (x12_3 : Int) p62 q62; replace p62 := eq_true p62; replace q62 := eq_true q62; obtain ⟨hy64_, hz64_⟩ := Kd.R_celln false HO_10.out (x12_3 : Int) (of_decide_eq_true (by first | (with_reducible assumption) | assumption)) (of_decide_eq_true (by first | (with_reducible assumption) | assumption)); have HP64 := Kd.R_putg HO_10.out (x12_3 : Int) true) | ((with_reducible refine gate_store (t := 4) (p := 115) rfl ?_); (try (rw [drewN_self wc]; generalize hq_ : World.drewN wc _ = wc; have n0_ := Aside0.mk (Kd.R_at hq_ HO_8.out); have n1_ := Aside0.mk (Kd.R_at hq_ HO_10.out); have n2_ := Aside0.mk (below_at hq_ HB.out); clear hq_ HO_8 HO_10 HB; have HO_8 := n0_; have HO_10 := n1_; have HB := n2_; clear n0_ n1_ n2_; (try (obtain ⟨hy64_, hz64_⟩ := Kd.R_celln false HO_10.out (x12_3 : Int) (of_decide_eq_true (by first | (with_reducible assumption) | assumption)) (of_decide_eq_true (by first | (with_reducible assumption) | assumption)))); (try (have HP64 := Kd.R_putg HO_10.out (x12_3 : Int) true)))); refine store_event (t := 4) (p := 115) (v := ?vo_w65) (w1 := (wc.setCell ⟨go62, (x12_3 : Int).toNat, none⟩ (.bool true))) ?hg ?ho ?hn ?hr ?_; (case ho => rfl); (case hg => rfl); (case hn => rfl); (case hr => first | (go_simp; done) | (go_simp; rfl)); intro w65 hw; have hg : wc.grownBy w65 (some go62) := (by rw [hw]; exact HP64.2); have hp_ : Kd.R Kd.bool 4 w65 w.heap.size (fun k_ => some k_ ≠ (.slice (some ad238) x8_2.length co63 : Value).ownBlock) (.slice (some ⟨go62, 0, none⟩) x10_3.length co62) y240 := (by rw [hw, Ny240.out]; exact HP64.1); clear HP64; have n0_ := Aside0.mk (Kd.R_after (v := (.slice (some ⟨go62, 0, none⟩) x10_3.length co62)) (v1 := (.slice (some ⟨go62, 0, none⟩) x10_3.length co62)) (ok := (fun _ => True)) (by (with_reducible repeat (first | apply Kd.R_alloc | apply Kd.R_drewN | apply Kd.R_drew)); exact Kd.R_mono HO_8.out (fun _ hk => ⟨trivial, hk⟩)) hg (.inl rfl)); have n1_ := Aside0.mk (hp_); have n2_ := Aside0.mk ((by rw [hw]; exact below_set (HB.out) GB62.out : Below w.heap.size w w65)); clear HO_8; clear HO_10; clear HB; have HO_8 := n0_; have HO_10 := n1_; have HB := n2_; clear n0_ n1_ n2_; clear hg hw hp_)); try go_wp2_with (first | (go_at_call 81; (with_reducible refine (barrowref02_fits.calls (bt a0 x9_2) (bt a1 (ji50)) true _ A58.out).mono ?_); rintro e w' ⟨rfl, ⟨nd, rfl⟩⟩; (try first | exact ⟨rfl, _, World.drewN_drewN _ _ _⟩ | exact ⟨rfl, _, Eq.trans (World.drewN_drewN _ _ _) (congrArg (World.drewN _) (Nat.add_assoc _ _ _))⟩); have p62 : 0 ≤ (x12_3 : Int) := of_decide_eq_true (by first | (with_reducible assumption) | assumption); have q62 : (x12_3 : Int) < ((x10_3.length : Int) : Int) := of_decide_eq_true (by first | (with_reducible assumption) | assumption); obtain ⟨go62, co62, eo62, gb62, gl62, cl62, HG62⟩ := Kd.R_form HO_10.out (by omega); (first | cases eo62 | (injection eo62 with ea_ en_ ec_; (first | subst ea_ | (injection ea_ with ea_; subst ea_)); subst ec_; clear en_)); have GB62 := Aside0.mk gb62; have GG62 := Aside0.mk HG62; clear gb62 gl62 HG62; obtain ⟨hx62_0, hf62_0⟩ := Kd.R_celln false HO_10.out (x12_3 : Int) p62 q62; replace p62 := eq_true p62; replace q62 := eq_true q62; obtain ⟨hy64_, hz64_⟩ := Kd.R_celln false HO_10.out (x12_3 : Int) (of_decide_eq_true (by first | (with_reducible assumption) | assumption)) (of_decide_eq_true (by first | (with_reducible assumption) | assumption)); have HP64 := Kd.R_putg HO_10.out (x12_3 : Int) true) | ((with_reducible refine gate_store (t := 4) (p := 115) rfl ?_); (try (rw [drewN_self wc]; generalize hq_ : World.drewN wc _ = wc; have n0_ := Aside0.mk (Kd.R_at hq_ HO_8.out); have n1_ := Aside0.mk (Kd.R_at hq_ HO_10.out); have n2_ := Aside0.mk (below_at hq_ HB.out); clear hq_ HO_8 HO_10 HB; have HO_8 := n0_; have HO_10 := n1_; have HB := n2_; clear n0_ n1_ n2_; (try (obtain ⟨hy64_, hz64_⟩ := Kd.R_celln false HO_10.out (x12_3 : Int) (of_decide_eq_true (by first | (with_reducible assumption) | assumption)) (of_decide_eq_true (by first | (with_reducible assumption) | assumption)))); (try (have HP64 := Kd.R_putg HO_10.out (x12_3 : Int) true)))); refine store_event (t := 4) (p := 115) (v := ?vo_w65) (w1 := (wc.setCell ⟨go62, (x12_3 : Int).toNat, none⟩ (.bool true))) ?hg ?ho ?hn ?hr ?_; (case ho => rfl); (case hg => rfl); (case hn => rfl); (case hr => first | (go_simp; done) | (go_simp; rfl)); intro w65 hw; have hg : wc.grownBy w65 (some go62) := (by rw [hw]; exact HP64.2); have hp_ : Kd.R Kd.bool 4 w65 w.heap.size (fun k_ => some k_ ≠ (.slice (some ad238) x8_2.length co63 : Value).ownBlock) (.slice (some ⟨go62, 0, none⟩) x10_3.length co62) y240 := (by rw [hw, Ny240.out]; exact HP64.1); clear HP64; have n0_ := Aside0.mk (Kd.R_after (v := (.slice (some ⟨go62, 0, none⟩) x10_3.length co62)) (v1 := (.slice (some ⟨go62, 0, none⟩) x10_3.length co62)) (ok := (fun _ => True)) (by (with_reducible repeat (first | apply Kd.R_alloc | apply Kd.R_drewN | apply Kd.R_drew)); exact Kd.R_mono HO_8.out (fun _ hk => ⟨trivial, hk⟩)) hg (.inl rfl)); have n1_ := Aside0.mk (hp_); have n2_ := Aside0.mk ((by rw [hw]; exact below_set (HB.out) GB62.out : Below w.heap.size w w65)); clear HO_8; clear HO_10; clear HB; have HO_8 := n0_; have HO_10 := n1_; have HB := n2_; clear n0_ n1_ n2_; clear hg hw hp_)))
                              go_roundg kj34
                              case measure => have := HK1.out; have := HK2.out; have := HK3.out; have := HJ34.out; omega
                              case rel => exact ⟨(y240), (x11_34), (wrap64 (x12_3 + 1)), (by first | rfl | (simp; done) | (simp [*]; done)), (by first | rfl | (simp; done) | (simp [*]; done)), H', ⟨by have := HK1.out; have := HK2.out; have := HK3.out; have := HJ34.out; omega⟩, ⟨by (with_reducible repeat (first | apply Kd.R_alloc | apply Kd.R_drewN | apply Kd.R_drew)); exact Kd.R_mono HO_8.out (fun _ hk => hk.2)⟩, ⟨by (with_reducible repeat (first | apply Kd.R_alloc | apply Kd.R_drewN | apply Kd.R_drew)); exact HO_10.out⟩, ⟨by repeat (first | (with_reducible first | exact HB.out | apply below_alloc | apply pw_below_drewN | apply below_drew1) | exact HB.out)⟩⟩
                             ·rw [if_neg c61] at H
                              exact absurd H (by simp)
                            ·rw [if_neg c60] at H
                             exact absurd H (by simp)
                           ·replace c59 := Bool.eq_false_iff.mpr c59
                            subst c59
                            have H1 : (barrowref02_Match.l2 kj34 a0 a1 x8_2 x9_2 x10_3 x11_34 (wrap64 (x12_3 + 1))) = some (r1, r2) := by rw [if_neg (show ¬ (false = true) by decide)] at H; exact H
                            clear H
                            have H := H1
                            clear H1
                            have H' := Aside0.mk H
                            clear H
                            have p42 : 0 ≤ (x9_2 : Int) := of_decide_eq_true (by first | (with_reducible assumption) | assumption)
                            have q42 : x9_2 < (a0.size : Int) := of_decide_eq_true (by first | (with_reducible assumption) | assumption)
                            have hx42 := bt_at a0 x9_2
                            replace p42 := eq_true p42
                            replace q42 := eq_true q42
                            obtain ⟨Ao66, co66, eo66⟩ := Kd.R_slice HO_8.out
                            subst eo66
                            have p238 : 0 ≤ ((ji50) : Int) := of_decide_eq_true (by first | (with_reducible assumption) | assumption)
                            have q238 : (ji50) < (x8_2.length : Int) := of_decide_eq_true (by first | (with_reducible assumption) | assumption)
                            obtain ⟨ad238, e238, hx238_0⟩ := Kd.at_bool (Kd.R_reads' HO_8.out).2.2 (ji50) p238 q238
                            (try rw [← Nbq53.out] at hx238_0)
                            cases e238
                            replace p238 := eq_true p238
                            replace q238 := eq_true q238
                            have p55 : 0 ≤ (x9_2 : Int) := of_decide_eq_true (by first | (with_reducible assumption) | assumption)
                            have q55 : x9_2 < (a0.size : Int) := of_decide_eq_true (by first | (with_reducible assumption) | assumption)
                            have hx55 := bt_at a0 x9_2
                            replace p55 := eq_true p55
                            replace q55 := eq_true q55
                            have p57 : 0 ≤ ((ji50) : Int) := of_decide_eq_true (by first | (with_reducible assumption) | assumption)
                            have q57 : (ji50) < (a1.size : Int) := of_decide_eq_true (by first | (with_reducible assumption) | assumption)
                            have hx57 := bt_at a1 (ji50)
                            replace p57 := eq_true p57
                            replace q57 := eq_true q57
                            go_wp2_with (first | (go_at_call 81; (with_reducible refine (barrowref02_fits.calls (bt a0 x9_2) (bt a1 (ji50)) false _ A58.out).mono ?_); rintro e w' ⟨rfl, ⟨nd, rfl⟩⟩; (try first | exact ⟨rfl, _, World.drewN_drewN _ _ _⟩ | exact ⟨rfl, _, Eq.trans (World.drewN_drewN _ _ _) (congrArg (World.drewN _) (Nat.add_assoc _ _ _))⟩)))
                            repeat (go_quiet (first | (go_at_call 81; (with_reducible refine (barrowref02_fits.calls (bt a0 x9_2) (bt a1 (ji50)) false _ A58.out).mono ?_); rintro e w' ⟨rfl, ⟨nd, rfl⟩⟩; (try first | exact ⟨rfl, _, World.drewN_drewN _ _ _⟩ | exact ⟨rfl, _, Eq.trans (World.drewN_drewN _ _ _) (congrArg (World.drewN _) (Nat.add_assoc _ _ _))⟩))); try go_wp2_with (first | (go_at_call 81; (with_reducible refine (barrowref02_fits.calls (bt a0 x9_2) (bt a1 (ji50)) false _ A58.out).mono ?_); rintro e w' ⟨rfl, ⟨nd, rfl⟩⟩; (try first | exact ⟨rfl, _, World.drewN_drewN _ _ _⟩ | exact ⟨rfl, _, Eq.trans (World.drewN_drewN _ _ _) (congrArg (World.drewN _) (Nat.add_assoc _ _ _))⟩))))
                            go_roundg kj34
                            case measure => have := HK1.out; have := HK2.out; have := HK3.out; have := HJ34.out; omega
                            case rel => exact ⟨(x10_3), (x11_34), (wrap64 (x12_3 + 1)), (by first | rfl | (simp; done) | (simp [*]; done)), (by first | rfl | (simp; done) | (simp [*]; done)), H', ⟨by have := HK1.out; have := HK2.out; have := HK3.out; have := HJ34.out; omega⟩, ⟨by (with_reducible repeat (first | apply Kd.R_alloc | apply Kd.R_drewN | apply Kd.R_drew)); exact HO_8.out⟩, ⟨by (with_reducible repeat (first | apply Kd.R_alloc | apply Kd.R_drewN | apply Kd.R_drew)); exact HO_10.out⟩, ⟨by repeat (first | (with_reducible first | exact HB.out | apply below_alloc | apply pw_below_drewN | apply below_drew1) | exact HB.out)⟩⟩
                          ·rw [if_neg c56] at H
                           exact absurd H (by simp)
                         ·replace c54 := Bool.eq_false_iff.mpr c54
                          subst c54
                          have H1 : (barrowref02_Match.l2 kj34 a0 a1 x8_2 x9_2 x10_3 x11_34 (wrap64 (x12_3 + 1))) = some (r1, r2) := by rw [if_neg (show ¬ (false = true) by decide)] at H; exact H
                          clear H
                          have H := H1
                          clear H1
                          have H' := Aside0.mk H
                          clear H
                          have p42 : 0 ≤ (x9_2 : Int) := of_decide_eq_true (by first | (with_reducible assumption) | assumption)
                          have q42 : x9_2 < (a0.size : Int) := of_decide_eq_true (by first | (with_reducible assumption) | assumption)
                          have hx42 := bt_at a0 x9_2
                          replace p42 := eq_true p42
                          replace q42 := eq_true q42
                          obtain ⟨Ao67, co67, eo67⟩ := Kd.R_slice HO_8.out
                          subst eo67
                          have p238 : 0 ≤ ((ji50) : Int) := of_decide_eq_true (by first | (with_reducible assumption) | assumption)
                          have q238 : (ji50) < (x8_2.length : Int) := of_decide_eq_true (by first | (with_reducible assumption) | assumption)
                          obtain ⟨ad238, e238, hx238_0⟩ := Kd.at_bool (Kd.R_reads' HO_8.out).2.2 (ji50) p238 q238
                          (try rw [← Nbq53.out] at hx238_0)
                          cases e238
                          replace p238 := eq_true p238
                          replace q238 := eq_true q238
                          go_wp2
                          repeat (go_quiet (fail); try go_wp2)
                          go_roundg kj34
                          case measure => have := HK1.out; have := HK2.out; have := HK3.out; have := HJ34.out; omega
                          case rel => exact ⟨(x10_3), (x11_34), (wrap64 (x12_3 + 1)), (by first | rfl | (simp; done) | (simp [*]; done)), (by first | rfl | (simp; done) | (simp [*]; done)), H', ⟨by have := HK1.out; have := HK2.out; have := HK3.out; have := HJ34.out; omega⟩, ⟨by (with_reducible repeat (first | apply Kd.R_alloc | apply Kd.R_drewN | apply Kd.R_drew)); exact HO_8.out⟩, ⟨by (with_reducible repeat (first | apply Kd.R_alloc | apply Kd.R_drewN | apply Kd.R_drew)); exact HO_10.out⟩, ⟨by repeat (first | (with_reducible first | exact HB.out | apply below_alloc | apply pw_below_drewN | apply below_drew1) | exact HB.out)⟩⟩
                        ·rw [if_neg c52] at H
                         exact absurd H (by simp)
                       ·rw [if_neg c51] at H
                        exact absurd H (by simp)
                      ·rw [if_neg c49] at H
                       have c49b0 : decide (0 < x12_3) = false := decide_eq_false c49
                       clear c49
                       have H' := Aside0.mk H
                       clear H
                       have p42 : 0 ≤ (x9_2 : Int) := of_decide_eq_true (by first | (with_reducible assumption) | assumption)
                       have q42 : x9_2 < (a0.size : Int) := of_decide_eq_true (by first | (with_reducible assumption) | assumption)
                       have hx42 := bt_at a0 x9_2
                       replace p42 := eq_true p42
                       replace q42 := eq_true q42
                       go_wp2
                       repeat (go_quiet (fail); try go_wp2)
                       go_roundg kj34
                       case measure => have := HK1.out; have := HK2.out; have := HK3.out; have := HJ34.out; omega
                       case rel => exact ⟨(x10_3), (x11_34), (wrap64 (x12_3 + 1)), (by first | rfl | (simp; done) | (simp [*]; done)), (by first | rfl | (simp; done) | (simp [*]; done)), H', ⟨by have := HK1.out; have := HK2.out; have := HK3.out; have := HJ34.out; omega⟩, ⟨by (with_reducible repeat (first | apply Kd.R_alloc | apply Kd.R_drewN | apply Kd.R_drew)); exact HO_8.out⟩, ⟨by (with_reducible repeat (first | apply Kd.R_alloc | apply Kd.R_drewN | apply Kd.R_drew)); exact HO_10.out⟩, ⟨by repeat (first | (with_reducible first | exact HB.out | apply below_alloc | apply pw_below_drewN | apply below_drew1) | exact HB.out)⟩⟩
                    ·rw [if_neg c41] at H
                     exact absurd H (by simp)
                   ·rw [if_neg c40] at H
                    exact absurd H (by simp)
                ·rw [if_neg c34] at H
                 have c34b0 : decide (x12_3 ≤ (a1.size : Int)) = false := decide_eq_false c34
                 clear c34
                 have H' := Aside0.mk H
                 clear H
                 go_wp2
                 repeat (go_quiet (fail); try go_wp2)
                 go_roundg k3
                 case measure => have := HK1.out; have := HK2.out; have := HK3.out; omega
                 case rel => exact ⟨(x10_3), (wrap64 (x9_2 + 1)), (by first | rfl | (simp; done) | (simp [*]; done)), H', ⟨by have := HK1.out; have := HK2.out; have := HK3.out; omega⟩, ⟨by (with_reducible repeat (first | apply Kd.R_alloc | apply Kd.R_drewN | apply Kd.R_drew)); exact Kd.R_mono HO_10.out (fun _ hk => trivial)⟩, ⟨by repeat (first | (with_reducible first | exact HB.out | apply below_alloc | apply pw_below_drewN | apply below_drew1) | exact HB.out)⟩⟩
             ·rw [if_neg c31] at H
              exact absurd H (by simp)
            ·rw [if_neg c30] at H
             exact absurd H (by simp)
           ·rw [if_neg c28] at H
            have c28b0 : decide (x9_2 < (a0.size : Int)) = false := decide_eq_false c28
            clear c28
            by_cases c68 : 0 ≤ (a1.size : Int)
            ·rw [if_pos c68] at H
             have c68b0 : decide (0 ≤ (a1.size : Int)) = true := decide_eq_true c68
             have c68b1 : decide (0 ≤ a1.size) = true := decide_eq_true (by omega)
             clear c68
             by_cases c69 : (a1.size : Int) < (x8_2.length : Int)
             ·rw [if_pos c69] at H
              have c69b0 : decide ((a1.size : Int) < (x8_2.length : Int)) = true := decide_eq_true c69
              have c69b1 : decide (a1.size < x8_2.length) = true := decide_eq_true (Int.ofNat_lt.mp c69)
              clear c69
              simp only [Option.some.injEq, Prod.mk.injEq] at H
              obtain ⟨rfl, rfl⟩ := H
              obtain ⟨Ao70, co70, eo70⟩ := Kd.R_slice HO_8.out
              subst eo70
              have p232 : 0 ≤ ((a1.size : Int) : Int) := of_decide_eq_true (by first | (with_reducible assumption) | assumption)
              have q232 : (a1.size : Int) < (x8_2.length : Int) := of_decide_eq_true (by first | (with_reducible assumption) | assumption)
              obtain ⟨ad232, e232, hx232_0⟩ := Kd.at_bool (Kd.R_reads' HO_8.out).2.2 (a1.size : Int) p232 q232
              (try simp only [Int.toNat_natCast] at hx232_0)
              cases e232
              replace p232 := eq_true p232
              replace q232 := eq_true q232
              go_wp2
              repeat (go_quiet (fail); try go_wp2)
              go_ret2
              exact ⟨by first | rfl | (simp [errW_none, errW_some] <;> rfl) | (simp only [← hji19]; first | rfl | (simp [errW_none, errW_some] <;> rfl)) | (simp [*, errW_none, errW_some] <;> rfl), by repeat (first | (with_reducible first | exact HB.out | apply below_alloc | apply pw_below_drewN | apply below_drew1) | exact HB.out)⟩
             ·rw [if_neg c69] at H
              exact absurd H (by simp)
            ·rw [if_neg c68] at H
             exact absurd H (by simp)
        ·rw [if_neg c22] at H
         exact absurd H (by simp)
       ·rw [if_neg c21] at H
        exact absurd H (by simp)
      ·rw [if_neg c20] at H
       exact absurd H (by simp)
     ·replace c18 := Bool.eq_false_iff.mpr c18
      subst c18
      have H1 : (some (false, 5)) = some (r1, r2) := by rw [if_neg (show ¬ (false = true) by decide)] at H; exact H
      clear H
      have H := H1
      clear H1
      simp only [Option.some.injEq, Prod.mk.injEq] at H
      obtain ⟨rfl, rfl⟩ := H
      go_wp2_with (first | (go_at_call 41; (with_reducible refine (barrowref02_Good.calls k1 a1 false _ A17.out).mono ?_); rintro e w' ⟨rfl, ⟨nd, rfl⟩⟩; (try first | exact ⟨rfl, _, World.drewN_drewN _ _ _⟩ | exact ⟨rfl, _, Eq.trans (World.drewN_drewN _ _ _) (congrArg (World.drewN _) (Nat.add_assoc _ _ _))⟩)))
      repeat (go_quiet (first | (go_at_call 41; (with_reducible refine (barrowref02_Good.calls k1 a1 false _ A17.out).mono ?_); rintro e w' ⟨rfl, ⟨nd, rfl⟩⟩; (try first | exact ⟨rfl, _, World.drewN_drewN _ _ _⟩ | exact ⟨rfl, _, Eq.trans (World.drewN_drewN _ _ _) (congrArg (World.drewN _) (Nat.add_assoc _ _ _))⟩))); try go_wp2_with (first | (go_at_call 41; (with_reducible refine (barrowref02_Good.calls k1 a1 false _ A17.out).mono ?_); rintro e w' ⟨rfl, ⟨nd, rfl⟩⟩; (try first | exact ⟨rfl, _, World.drewN_drewN _ _ _⟩ | exact ⟨rfl, _, Eq.trans (World.drewN_drewN _ _ _) (congrArg (World.drewN _) (Nat.add_assoc _ _ _))⟩))))
      go_ret2
      exact ⟨by first | rfl | (simp [errW_none, errW_some] <;> rfl) | (simp [*, errW_none, errW_some] <;> rfl), by repeat (first | (with_reducible first | exact HB.out | apply below_alloc | apply pw_below_drewN | apply below_drew1) | exact HB.out)⟩

end Go.Proofs.YtmicghhmbojkfaaGreatDoor.G
