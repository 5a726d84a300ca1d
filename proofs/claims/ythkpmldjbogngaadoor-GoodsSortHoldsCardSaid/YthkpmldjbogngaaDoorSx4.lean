-- PRINTED by print.py (a twelfth state) out of the translation. Not trusted: Lean checks it.
import Derived.Test.YthkpmldjbogngaaDoorSx0
import Derived.Test.YthkpmldjbogngaaDoorSx1
import Derived.Test.YthkpmldjbogngaaDoorSx2
import Derived.Test.YthkpmldjbogngaaDoorSx3
import Derived.Test.YthkpmldjbogngaaDoorSCmp
namespace Go.Proofs.YthkpmldjbogngaaDoor.S
open Go.RowKit Go.Proofs.YthkpmldjbogngaaDoorW.PrintWords Go.Proofs.YthkpmldjbogngaaDoorW.PrintLast Go.Proofs.YthkpmldjbogngaaDoorW.PrintMore
attribute [local go_sem] max2_int min2_int max_two min_two max_three min_three max_four min_four   -- for this text's walks alone
set_option linter.unusedVariables false
set_option linter.unusedSimpArgs false

/-! ### goods_Compare: function 5 -/
mutual
def goods_Compare.l0 : Nat → ByteArray → ByteArray → Int → Int → Option (Int)
 | 0, _, _, _, _ => none
 | k + 1, x0, x1, x5, x6 => if x5 < (x0.size : Int) then (goods_Compare.j1 k x0 x1 x5 x6 (decide (x6 < (x1.size : Int)))) else (goods_Compare.j1 k x0 x1 x5 x6 false)
def goods_Compare.j1 : Nat → ByteArray → ByteArray → Int → Int → Bool → Option (Int)
 | 0, _, _, _, _, _ => none
 | k + 1, x0, x1, x5, x6, x19 => if x19 = true then ((goods_piece.f k x0 x5).bind fun t106 => ((goods_piece.f k x1 x6).bind fun t107 => (if 0 ≤ x5 then (if x5 < (x0.size : Int) then ((goods_isDigit.f (bt x0 x5)).bind fun t108 => (if t108 = true then (if 0 ≤ x6 then (if x6 < (x1.size : Int) then ((goods_isDigit.f (bt x1 x6)).bind fun t109 => (goods_Compare.j2 k x0 x1 x5 x6 t106 t107 0 t109)) else (none)) else (none)) else (goods_Compare.j2 k x0 x1 x5 x6 t106 t107 0 false))) else (none)) else (none)))) else (if x5 < (x0.size : Int) then (some 1) else (if x6 < (x1.size : Int) then (some (-1)) else ((strings_Compare.f x0 x1).bind fun t111 => (some t111))))
def goods_Compare.j2 : Nat → ByteArray → ByteArray → Int → Int → Int → Int → Int → Bool → Option (Int)
 | 0, _, _, _, _, _, _, _, _ => none
 | k + 1, x0, x1, x5, x6, x7, x8, x9, x26 => if x26 = true then (if 0 ≤ x5 then (if x5 ≤ x7 then (if x7 ≤ (x0.size : Int) then (if 0 ≤ x6 then (if x6 ≤ x8 then (if x8 ≤ (x1.size : Int) then ((goods_numbers.f (x0.extract (x5 : Int).toNat (x7 : Int).toNat) (x1.extract (x6 : Int).toNat (x8 : Int).toNat)).bind fun t110 => (if t110 = 0 then (goods_Compare.l0 k x0 x1 x7 x8) else (some t110))) else (none)) else (none)) else (none)) else (none)) else (none)) else (none)) else (if 0 ≤ x5 then (if x5 < (x0.size : Int) then (if 0 ≤ x6 then (if x6 < (x1.size : Int) then (if (bt x0 x5) < (bt x1 x6) then (if (-1) = 0 then (goods_Compare.l0 k x0 x1 x7 x8) else (some (-1))) else (if (bt x0 x5) > (bt x1 x6) then (if 1 = 0 then (goods_Compare.l0 k x0 x1 x7 x8) else (some 1)) else (if x9 = 0 then (goods_Compare.l0 k x0 x1 x7 x8) else (some x9)))) else (none)) else (none)) else (none)) else (none))
end
def goods_Compare.f (k : Nat) (a0 : ByteArray) (a1 : ByteArray) : Option (Int) := goods_Compare.l0 k a0 a1 0 0
theorem goods_Compare.mono_l : ∀ k, (∀ y0 y1 y2 y3, LeO (goods_Compare.l0 k y0 y1 y2 y3) (goods_Compare.l0 (k + 1) y0 y1 y2 y3)) ∧ (∀ y0 y1 y2 y3 y4, LeO (goods_Compare.j1 k y0 y1 y2 y3 y4) (goods_Compare.j1 (k + 1) y0 y1 y2 y3 y4)) ∧ (∀ y0 y1 y2 y3 y4 y5 y6 y7, LeO (goods_Compare.j2 k y0 y1 y2 y3 y4 y5 y6 y7) (goods_Compare.j2 (k + 1) y0 y1 y2 y3 y4 y5 y6 y7))
 | 0 => ⟨fun _ _ _ _ r h => by simp [goods_Compare.l0] at h, fun _ _ _ _ _ r h => by simp [goods_Compare.j1] at h, fun _ _ _ _ _ _ _ _ r h => by simp [goods_Compare.j2] at h⟩
 | k + 1 => by
  obtain ⟨ih0, ih1, ih2⟩ := goods_Compare.mono_l k
  refine ⟨?_, ?_, ?_⟩
  ·intro y0 y1 y2 y3
   unfold goods_Compare.l0
   repeat' first
   | (with_reducible exact ih0 _ _ _ _)
   | (with_reducible exact ih1 _ _ _ _ _)
   | (with_reducible exact ih2 _ _ _ _ _ _ _ _)
   | (with_reducible exact goods_piece.mono _ _ _)
   | (with_reducible exact LeO.refl _)
   | (with_reducible exact LeO.none _)
   | (with_reducible refine LeO.ite ?_ ?_)
   | (with_reducible refine LeO.bind ?_ (fun _ => ?_))
   | exact ih0 _ _ _ _
   | exact ih1 _ _ _ _ _
   | exact ih2 _ _ _ _ _ _ _ _
   | exact goods_piece.mono _ _ _
   | exact LeO.none _
   | refine LeO.ite ?_ ?_
   | refine LeO.bind ?_ (fun _ => ?_)
  ·intro y0 y1 y2 y3 y4
   unfold goods_Compare.j1
   repeat' first
   | (with_reducible exact ih0 _ _ _ _)
   | (with_reducible exact ih1 _ _ _ _ _)
   | (with_reducible exact ih2 _ _ _ _ _ _ _ _)
   | (with_reducible exact goods_piece.mono _ _ _)
   | (with_reducible exact LeO.refl _)
   | (with_reducible exact LeO.none _)
   | (with_reducible refine LeO.ite ?_ ?_)
   | (with_reducible refine LeO.bind ?_ (fun _ => ?_))
   | exact ih0 _ _ _ _
   | exact ih1 _ _ _ _ _
   | exact ih2 _ _ _ _ _ _ _ _
   | exact goods_piece.mono _ _ _
   | exact LeO.none _
   | refine LeO.ite ?_ ?_
   | refine LeO.bind ?_ (fun _ => ?_)
  ·intro y0 y1 y2 y3 y4 y5 y6 y7
   unfold goods_Compare.j2
   repeat' first
   | (with_reducible exact ih0 _ _ _ _)
   | (with_reducible exact ih1 _ _ _ _ _)
   | (with_reducible exact ih2 _ _ _ _ _ _ _ _)
   | (with_reducible exact goods_piece.mono _ _ _)
   | (with_reducible exact LeO.refl _)
   | (with_reducible exact LeO.none _)
   | (with_reducible refine LeO.ite ?_ ?_)
   | (with_reducible refine LeO.bind ?_ (fun _ => ?_))
   | exact ih0 _ _ _ _
   | exact ih1 _ _ _ _ _
   | exact ih2 _ _ _ _ _ _ _ _
   | exact goods_piece.mono _ _ _
   | exact LeO.none _
   | refine LeO.ite ?_ ?_
   | refine LeO.bind ?_ (fun _ => ?_)
theorem goods_Compare.mono : ∀ a0 a1 k, LeO (goods_Compare.f k a0 a1) (goods_Compare.f (k + 1) a0 a1) := by
 intro a0 a1 k
 obtain ⟨ih0, ih1, ih2⟩ := goods_Compare.mono_l k
 unfold goods_Compare.f
 repeat' first
   | (with_reducible exact ih0 _ _ _ _)
   | (with_reducible exact ih1 _ _ _ _ _)
   | (with_reducible exact ih2 _ _ _ _ _ _ _ _)
   | (with_reducible exact goods_piece.mono _ _ _)
   | (with_reducible exact LeO.refl _)
   | (with_reducible exact LeO.none _)
   | (with_reducible refine LeO.ite ?_ ?_)
   | (with_reducible refine LeO.bind ?_ (fun _ => ?_))
   | exact ih0 _ _ _ _
   | exact ih1 _ _ _ _ _
   | exact ih2 _ _ _ _ _ _ _ _
   | exact goods_piece.mono _ _ _
   | exact LeO.none _
   | refine LeO.ite ?_ ?_
   | refine LeO.bind ?_ (fun _ => ?_)
set_option maxHeartbeats 8000000 in
set_option maxRecDepth 100000 in
theorem goods_Compare.calls (k : Nat) (a0 : ByteArray) (a1 : ByteArray) (r : Int) (w : World) (h : goods_Compare.f k a0 a1 = some r) :
  Calls Tryd.prog 5 #[.string a0, .string a1] w fun e w' => e = .returned (.int .i64 r) ∧ Drawn0 w w' := by
 have H : (goods_Compare.l0 k a0 a1 0 0) = some r := h
 clear h
 have H' := Aside0.mk H
 clear H
 go_enter Tryd.func5, Tryd.ntmps5
 go_wp2
 repeat (go_quiet (fail); try go_wp2)
 go_loopg [5, 6] k (fun kq v5 v6 w' => ∃ (x5_1 : Int) (x6_1 : Int), v5 = .int .i64 x5_1 ∧ v6 = .int .i64 x6_1 ∧ Aside0 (goods_Compare.l0 kq a0 a1 x5_1 x6_1 = some r) ∧ Aside0 (kq ≤ k) ∧ Drawn0 w w')
 case atStart => exact ⟨(0), (0), (by first | rfl | (simp; done) | (simp [*]; done)), (by first | rfl | (simp; done) | (simp [*]; done)), H', ⟨Nat.le_refl _⟩, by repeat (first | exact Drawn0.refl _ | apply Drawn0.step)⟩
 case round =>
  clear H'
  try clear p2
  obtain ⟨x5_1, x6_1, rfl, rfl, HA, HK1, ⟨m1, rfl⟩⟩ := hrel
  cases gk with
  | zero => exact absurd HA.out (by simp [goods_Compare.l0])
  | succ k1 =>
   have H := HA.out
   clear HA
   simp only [goods_Compare.l0] at H
   have HC3 := Aside0.mk H
   clear H
   go_upto_region 2 with (fail)
   repeat (go_quiet (fail); go_upto_region 2 with (fail))
   go_cut [19] (fun v19 wc => ∃ (kq : Nat) (x19_2 : Bool), v19 = .bool x19_2 ∧ Aside0 (goods_Compare.j1 kq a0 a1 x5_1 x6_1 x19_2 = some r) ∧ Aside0 (kq ≤ k1) ∧ Drawn0 w wc)
   case first =>
    have H := HC3.out
    clear HC3
    by_cases c4 : x5_1 < (a0.size : Int)
    ·rw [if_pos c4] at H
     have c4b0 : decide (x5_1 < (a0.size : Int)) = true := decide_eq_true c4
     clear c4
     (first | rw [c4b0] | (simp only [i64_w, i32_w]; rw [c4b0]) | skip)
     have H' := Aside0.mk H
     clear H
     go_wp2
     repeat (go_quiet (fail); try go_wp2)
     go_meet
     case rel => exact ⟨_, (decide (x6_1 < (a1.size : Int))), (by first | rfl | (simp; done) | (simp [*]; done)), H', ⟨by have := HK1.out; first | omega | exact Nat.le_refl _⟩, by repeat (first | exact Drawn0.refl _ | apply Drawn0.step)⟩
    ·rw [if_neg c4] at H
     have c4b0 : decide (x5_1 < (a0.size : Int)) = false := decide_eq_false c4
     clear c4
     (first | rw [c4b0] | (simp only [i64_w, i32_w]; rw [c4b0]) | skip)
     have H' := Aside0.mk H
     clear H
     go_wp2
     repeat (go_quiet (fail); try go_wp2)
     go_meet
     case rel => exact ⟨_, (false), (by first | rfl | (simp; done) | (simp [*]; done)), H', ⟨by have := HK1.out; first | omega | exact Nat.le_refl _⟩, by repeat (first | exact Drawn0.refl _ | apply Drawn0.step)⟩
   case rest =>
    clear HC3
    try clear p2
    try clear c4
    try clear c4b0
    try clear p2
    obtain ⟨kq, x19_2, rfl, HA, HJ2, ⟨mc2, rfl⟩⟩ := hcut
    cases kq with
    | zero => exact absurd HA.out (by simp [goods_Compare.j1])
    | succ kj2 =>
     have H := HA.out
     clear HA
     simp only [goods_Compare.j1] at H
     by_cases c5 : x19_2 = true
     ·subst c5
      have H1 : ((goods_piece.f kj2 a0 x5_1).bind fun t106 => ((goods_piece.f kj2 a1 x6_1).bind fun t107 => (if 0 ≤ x5_1 then (if x5_1 < (a0.size : Int) then ((goods_isDigit.f (bt a0 x5_1)).bind fun t108 => (if t108 = true then (if 0 ≤ x6_1 then (if x6_1 < (a1.size : Int) then ((goods_isDigit.f (bt a1 x6_1)).bind fun t109 => (goods_Compare.j2 kj2 a0 a1 x5_1 x6_1 t106 t107 0 t109)) else (none)) else (none)) else (goods_Compare.j2 kj2 a0 a1 x5_1 x6_1 t106 t107 0 false))) else (none)) else (none)))) = some r := by rw [if_pos rfl] at H; exact H
      clear H
      have H := H1
      clear H1
      replace H := Option.bind_eq_some_iff.mp H
      obtain ⟨t106, A60, H⟩ := H
      replace H : ((goods_piece.f kj2 a1 x6_1).bind fun t107 => (if 0 ≤ x5_1 then (if x5_1 < (a0.size : Int) then ((goods_isDigit.f (bt a0 x5_1)).bind fun t108 => (if t108 = true then (if 0 ≤ x6_1 then (if x6_1 < (a1.size : Int) then ((goods_isDigit.f (bt a1 x6_1)).bind fun t109 => (goods_Compare.j2 kj2 a0 a1 x5_1 x6_1 t106 t107 0 t109)) else (none)) else (none)) else (goods_Compare.j2 kj2 a0 a1 x5_1 x6_1 t106 t107 0 false))) else (none)) else (none))) = some r := H
      have A6 := Aside0.mk A60
      clear A60
      replace H := Option.bind_eq_some_iff.mp H
      obtain ⟨t107, A70, H⟩ := H
      replace H : (if 0 ≤ x5_1 then (if x5_1 < (a0.size : Int) then ((goods_isDigit.f (bt a0 x5_1)).bind fun t108 => (if t108 = true then (if 0 ≤ x6_1 then (if x6_1 < (a1.size : Int) then ((goods_isDigit.f (bt a1 x6_1)).bind fun t109 => (goods_Compare.j2 kj2 a0 a1 x5_1 x6_1 t106 t107 0 t109)) else (none)) else (none)) else (goods_Compare.j2 kj2 a0 a1 x5_1 x6_1 t106 t107 0 false))) else (none)) else (none)) = some r := H
      have A7 := Aside0.mk A70
      clear A70
      have HC8 := Aside0.mk H
      clear H
      go_upto_region 5 with (first | (go_at_call 13; (with_reducible refine (goods_piece.calls kj2 a0 x5_1 t106 _ A6.out).mono ?_); rintro e w' ⟨rfl, ⟨nd, rfl⟩⟩; (try first | exact ⟨rfl, _, World.drewN_drewN _ _ _⟩ | exact ⟨rfl, _, Eq.trans (World.drewN_drewN _ _ _) (congrArg (World.drewN _) (Nat.add_assoc _ _ _))⟩)) | (go_at_call 13; (with_reducible refine (goods_piece.calls kj2 a1 x6_1 t107 _ A7.out).mono ?_); rintro e w' ⟨rfl, ⟨nd, rfl⟩⟩; (try first | exact ⟨rfl, _, World.drewN_drewN _ _ _⟩ | exact ⟨rfl, _, Eq.trans (World.drewN_drewN _ _ _) (congrArg (World.drewN _) (Nat.add_assoc _ _ _))⟩)))
      repeat (go_quiet (first | (go_at_call 13; (with_reducible refine (goods_piece.calls kj2 a0 x5_1 t106 _ A6.out).mono ?_); rintro e w' ⟨rfl, ⟨nd, rfl⟩⟩; (try first | exact ⟨rfl, _, World.drewN_drewN _ _ _⟩ | exact ⟨rfl, _, Eq.trans (World.drewN_drewN _ _ _) (congrArg (World.drewN _) (Nat.add_assoc _ _ _))⟩)) | (go_at_call 13; (with_reducible refine (goods_piece.calls kj2 a1 x6_1 t107 _ A7.out).mono ?_); rintro e w' ⟨rfl, ⟨nd, rfl⟩⟩; (try first | exact ⟨rfl, _, World.drewN_drewN _ _ _⟩ | exact ⟨rfl, _, Eq.trans (World.drewN_drewN _ _ _) (congrArg (World.drewN _) (Nat.add_assoc _ _ _))⟩))); go_upto_region 5 with (first | (go_at_call 13; (with_reducible refine (goods_piece.calls kj2 a0 x5_1 t106 _ A6.out).mono ?_); rintro e w' ⟨rfl, ⟨nd, rfl⟩⟩; (try first | exact ⟨rfl, _, World.drewN_drewN _ _ _⟩ | exact ⟨rfl, _, Eq.trans (World.drewN_drewN _ _ _) (congrArg (World.drewN _) (Nat.add_assoc _ _ _))⟩)) | (go_at_call 13; (with_reducible refine (goods_piece.calls kj2 a1 x6_1 t107 _ A7.out).mono ?_); rintro e w' ⟨rfl, ⟨nd, rfl⟩⟩; (try first | exact ⟨rfl, _, World.drewN_drewN _ _ _⟩ | exact ⟨rfl, _, Eq.trans (World.drewN_drewN _ _ _) (congrArg (World.drewN _) (Nat.add_assoc _ _ _))⟩))))
      (try simp only [Act.put, List.setIfInBounds_toArray, List.set_cons_zero, List.set_cons_succ])
      go_cut [26] (fun v26 wc => ∃ (kq : Nat) (x26_7 : Bool), v26 = .bool x26_7 ∧ Aside0 (goods_Compare.j2 kq a0 a1 x5_1 x6_1 t106 t107 0 x26_7 = some r) ∧ Aside0 (kq ≤ kj2) ∧ Drawn0 w wc)
      case first =>
       have H := HC8.out
       clear HC8
       by_cases c9 : 0 ≤ x5_1
       ·rw [if_pos c9] at H
        have c9b0 : decide (0 ≤ x5_1) = true := decide_eq_true c9
        clear c9
        (first | rw [c9b0] | (simp only [i64_w, i32_w]; rw [c9b0]) | skip)
        by_cases c10 : x5_1 < (a0.size : Int)
        ·rw [if_pos c10] at H
         have c10b0 : decide (x5_1 < (a0.size : Int)) = true := decide_eq_true c10
         clear c10
         replace H := Option.bind_eq_some_iff.mp H
         obtain ⟨t108, A120, H⟩ := H
         replace H : (if t108 = true then (if 0 ≤ x6_1 then (if x6_1 < (a1.size : Int) then ((goods_isDigit.f (bt a1 x6_1)).bind fun t109 => (goods_Compare.j2 kj2 a0 a1 x5_1 x6_1 t106 t107 0 t109)) else (none)) else (none)) else (goods_Compare.j2 kj2 a0 a1 x5_1 x6_1 t106 t107 0 false)) = some r := H
         have A12 := Aside0.mk A120
         clear A120
         by_cases c13 : t108 = true
         ·subst c13
          have H1 : (if 0 ≤ x6_1 then (if x6_1 < (a1.size : Int) then ((goods_isDigit.f (bt a1 x6_1)).bind fun t109 => (goods_Compare.j2 kj2 a0 a1 x5_1 x6_1 t106 t107 0 t109)) else (none)) else (none)) = some r := by rw [if_pos rfl] at H; exact H
          clear H
          have H := H1
          clear H1
          by_cases c14 : 0 ≤ x6_1
          ·rw [if_pos c14] at H
           have c14b0 : decide (0 ≤ x6_1) = true := decide_eq_true c14
           clear c14
           by_cases c15 : x6_1 < (a1.size : Int)
           ·rw [if_pos c15] at H
            have c15b0 : decide (x6_1 < (a1.size : Int)) = true := decide_eq_true c15
            clear c15
            replace H := Option.bind_eq_some_iff.mp H
            obtain ⟨t109, A170, H⟩ := H
            replace H : (goods_Compare.j2 kj2 a0 a1 x5_1 x6_1 t106 t107 0 t109) = some r := H
            have A17 := Aside0.mk A170
            clear A170
            have H' := Aside0.mk H
            clear H
            have p11 : 0 ≤ (x5_1 : Int) := of_decide_eq_true (by first | (with_reducible assumption) | assumption)
            have q11 : x5_1 < (a0.size : Int) := of_decide_eq_true (by first | (with_reducible assumption) | assumption)
            have hx11 := bt_at a0 x5_1
            replace p11 := eq_true p11
            replace q11 := eq_true q11
            go_wp2_with (first | (go_at_call 14; (with_reducible refine (goods_isDigit.calls (bt a0 x5_1) true _ A12.out).mono ?_); rintro e w' ⟨rfl, ⟨nd, rfl⟩⟩; (try first | exact ⟨rfl, _, World.drewN_drewN _ _ _⟩ | exact ⟨rfl, _, Eq.trans (World.drewN_drewN _ _ _) (congrArg (World.drewN _) (Nat.add_assoc _ _ _))⟩); have p16 : 0 ≤ (x6_1 : Int) := of_decide_eq_true (by first | (with_reducible assumption) | assumption); have q16 : x6_1 < (a1.size : Int) := of_decide_eq_true (by first | (with_reducible assumption) | assumption); have hx16 := bt_at a1 x6_1; replace p16 := eq_true p16; replace q16 := eq_true q16) | (go_at_call 14; (with_reducible refine (goods_isDigit.calls (bt a1 x6_1) t109 _ A17.out).mono ?_); rintro e w' ⟨rfl, ⟨nd, rfl⟩⟩; (try first | exact ⟨rfl, _, World.drewN_drewN _ _ _⟩ | exact ⟨rfl, _, Eq.trans (World.drewN_drewN _ _ _) (congrArg (World.drewN _) (Nat.add_assoc _ _ _))⟩)))
            repeat (go_quiet (first | (go_at_call 14; (with_reducible refine (goods_isDigit.calls (bt a0 x5_1) true _ A12.out).mono ?_); rintro e w' ⟨rfl, ⟨nd, rfl⟩⟩; (try first | exact ⟨rfl, _, World.drewN_drewN _ _ _⟩ | exact ⟨rfl, _, Eq.trans (World.drewN_drewN _ _ _) (congrArg (World.drewN _) (Nat.add_assoc _ _ _))⟩); have p16 : 0 ≤ (x6_1 : Int) := of_decide_eq_true (by first | (with_reducible assumption) | assumption); have q16 : x6_1 < (a1.size : Int) := of_decide_eq_true (by first | (with_reducible assumption) | assumption); have hx16 := bt_at a1 x6_1; replace p16 := eq_true p16; replace q16 := eq_true q16) | (go_at_call 14; (with_reducible refine (goods_isDigit.calls (bt a1 x6_1) t109 _ A17.out).mono ?_); rintro e w' ⟨rfl, ⟨nd, rfl⟩⟩; (try first | exact ⟨rfl, _, World.drewN_drewN _ _ _⟩ | exact ⟨rfl, _, Eq.trans (World.drewN_drewN _ _ _) (congrArg (World.drewN _) (Nat.add_assoc _ _ _))⟩))); try go_wp2_with (first | (go_at_call 14; (with_reducible refine (goods_isDigit.calls (bt a0 x5_1) true _ A12.out).mono ?_); rintro e w' ⟨rfl, ⟨nd, rfl⟩⟩; (try first | exact ⟨rfl, _, World.drewN_drewN _ _ _⟩ | exact ⟨rfl, _, Eq.trans (World.drewN_drewN _ _ _) (congrArg (World.drewN _) (Nat.add_assoc _ _ _))⟩); have p16 : 0 ≤ (x6_1 : Int) := of_decide_eq_true (by first | (with_reducible assumption) | assumption); have q16 : x6_1 < (a1.size : Int) := of_decide_eq_true (by first | (with_reducible assumption) | assumption); have hx16 := bt_at a1 x6_1; replace p16 := eq_true p16; replace q16 := eq_true q16) | (go_at_call 14; (with_reducible refine (goods_isDigit.calls (bt a1 x6_1) t109 _ A17.out).mono ?_); rintro e w' ⟨rfl, ⟨nd, rfl⟩⟩; (try first | exact ⟨rfl, _, World.drewN_drewN _ _ _⟩ | exact ⟨rfl, _, Eq.trans (World.drewN_drewN _ _ _) (congrArg (World.drewN _) (Nat.add_assoc _ _ _))⟩))))
            go_meet
            case rel => exact ⟨_, (t109), (by first | rfl | (simp; done) | (simp [*]; done)), H', ⟨by have := HK1.out; have := HJ2.out; first | omega | exact Nat.le_refl _⟩, by repeat (first | exact Drawn0.refl _ | apply Drawn0.step)⟩
           ·rw [if_neg c15] at H
            exact absurd H (by simp)
          ·rw [if_neg c14] at H
           exact absurd H (by simp)
         ·replace c13 := Bool.eq_false_iff.mpr c13
          subst c13
          have H1 : (goods_Compare.j2 kj2 a0 a1 x5_1 x6_1 t106 t107 0 false) = some r := by rw [if_neg (show ¬ (false = true) by decide)] at H; exact H
          clear H
          have H := H1
          clear H1
          have H' := Aside0.mk H
          clear H
          have p11 : 0 ≤ (x5_1 : Int) := of_decide_eq_true (by first | (with_reducible assumption) | assumption)
          have q11 : x5_1 < (a0.size : Int) := of_decide_eq_true (by first | (with_reducible assumption) | assumption)
          have hx11 := bt_at a0 x5_1
          replace p11 := eq_true p11
          replace q11 := eq_true q11
          go_wp2_with (first | (go_at_call 14; (with_reducible refine (goods_isDigit.calls (bt a0 x5_1) false _ A12.out).mono ?_); rintro e w' ⟨rfl, ⟨nd, rfl⟩⟩; (try first | exact ⟨rfl, _, World.drewN_drewN _ _ _⟩ | exact ⟨rfl, _, Eq.trans (World.drewN_drewN _ _ _) (congrArg (World.drewN _) (Nat.add_assoc _ _ _))⟩)))
          repeat (go_quiet (first | (go_at_call 14; (with_reducible refine (goods_isDigit.calls (bt a0 x5_1) false _ A12.out).mono ?_); rintro e w' ⟨rfl, ⟨nd, rfl⟩⟩; (try first | exact ⟨rfl, _, World.drewN_drewN _ _ _⟩ | exact ⟨rfl, _, Eq.trans (World.drewN_drewN _ _ _) (congrArg (World.drewN _) (Nat.add_assoc _ _ _))⟩))); try go_wp2_with (first | (go_at_call 14; (with_reducible refine (goods_isDigit.calls (bt a0 x5_1) false _ A12.out).mono ?_); rintro e w' ⟨rfl, ⟨nd, rfl⟩⟩; (try first | exact ⟨rfl, _, World.drewN_drewN _ _ _⟩ | exact ⟨rfl, _, Eq.trans (World.drewN_drewN _ _ _) (congrArg (World.drewN _) (Nat.add_assoc _ _ _))⟩))))
          go_meet
          case rel => exact ⟨_, (false), (by first | rfl | (simp; done) | (simp [*]; done)), H', ⟨by have := HK1.out; have := HJ2.out; first | omega | exact Nat.le_refl _⟩, by repeat (first | exact Drawn0.refl _ | apply Drawn0.step)⟩
        ·rw [if_neg c10] at H
         exact absurd H (by simp)
       ·rw [if_neg c9] at H
        exact absurd H (by simp)
      case rest =>
       clear HC8
       try clear c1
       try clear p1
       try clear q1
       try clear hx1
       try clear c2
       try clear p2
       try clear c4
       try clear c4b0
       try clear c5
       try clear c9
       try clear c9b0
       try clear c10
       try clear c10b0
       try clear p11
       try clear q11
       try clear hx11
       try clear c13
       try clear c14
       try clear c14b0
       try clear c15
       try clear c15b0
       try clear p16
       try clear q16
       try clear hx16
       try clear p11
       try clear p16
       try clear p2
       try clear q11
       try clear q16
       obtain ⟨kq, x26_7, rfl, HA, HJ7, ⟨mc7, rfl⟩⟩ := hcut
       cases kq with
       | zero => exact absurd HA.out (by simp [goods_Compare.j2])
       | succ kj7 =>
        have H := HA.out
        clear HA
        simp only [goods_Compare.j2] at H
        by_cases c18 : x26_7 = true
        ·subst c18
         have H1 : (if 0 ≤ x5_1 then (if x5_1 ≤ t106 then (if t106 ≤ (a0.size : Int) then (if 0 ≤ x6_1 then (if x6_1 ≤ t107 then (if t107 ≤ (a1.size : Int) then ((goods_numbers.f (a0.extract (x5_1 : Int).toNat (t106 : Int).toNat) (a1.extract (x6_1 : Int).toNat (t107 : Int).toNat)).bind fun t110 => (if t110 = 0 then (goods_Compare.l0 kj7 a0 a1 t106 t107) else (some t110))) else (none)) else (none)) else (none)) else (none)) else (none)) else (none)) = some r := by rw [if_pos rfl] at H; exact H
         clear H
         have H := H1
         clear H1
         by_cases c19 : 0 ≤ x5_1
         ·rw [if_pos c19] at H
          have c19b0 := eq_true c19
          have c19b1 : decide (0 ≤ x5_1) = true := decide_eq_true c19
          clear c19
          by_cases c20 : x5_1 ≤ t106
          ·rw [if_pos c20] at H
           have c20b0 := eq_true c20
           have c20b1 : decide (x5_1 ≤ t106) = true := decide_eq_true c20
           clear c20
           by_cases c21 : t106 ≤ (a0.size : Int)
           ·rw [if_pos c21] at H
            have c21b0 := eq_true c21
            have c21b1 : decide (t106 ≤ (a0.size : Int)) = true := decide_eq_true c21
            clear c21
            by_cases c22 : 0 ≤ x6_1
            ·rw [if_pos c22] at H
             have c22b0 := eq_true c22
             have c22b1 : decide (0 ≤ x6_1) = true := decide_eq_true c22
             clear c22
             by_cases c23 : x6_1 ≤ t107
             ·rw [if_pos c23] at H
              have c23b0 := eq_true c23
              have c23b1 : decide (x6_1 ≤ t107) = true := decide_eq_true c23
              clear c23
              by_cases c24 : t107 ≤ (a1.size : Int)
              ·rw [if_pos c24] at H
               have c24b0 := eq_true c24
               have c24b1 : decide (t107 ≤ (a1.size : Int)) = true := decide_eq_true c24
               clear c24
               replace H := Option.bind_eq_some_iff.mp H
               obtain ⟨t110, A250, H⟩ := H
               replace H : (if t110 = 0 then (goods_Compare.l0 kj7 a0 a1 t106 t107) else (some t110)) = some r := H
               have A25 := Aside0.mk A250
               clear A250
               by_cases c26 : t110 = 0
               ·rw [if_pos c26] at H
                have c26b0 : (t110 == 0) = true := beq_iff_eq.mpr c26
                have c26b1 : (t110 != 0) = false := bne_eq_false_iff_eq.mpr c26
                clear c26
                have H' := Aside0.mk H
                clear H
                go_wp2_with (first | (go_at_call 15; (with_reducible refine (goods_numbers.calls (a0.extract (x5_1 : Int).toNat (t106 : Int).toNat) (a1.extract (x6_1 : Int).toNat (t107 : Int).toNat) t110 _ A25.out).mono ?_); rintro e w' ⟨rfl, ⟨nd, rfl⟩⟩; (try first | exact ⟨rfl, _, World.drewN_drewN _ _ _⟩ | exact ⟨rfl, _, Eq.trans (World.drewN_drewN _ _ _) (congrArg (World.drewN _) (Nat.add_assoc _ _ _))⟩)))
                repeat (go_quiet (first | (go_at_call 15; (with_reducible refine (goods_numbers.calls (a0.extract (x5_1 : Int).toNat (t106 : Int).toNat) (a1.extract (x6_1 : Int).toNat (t107 : Int).toNat) t110 _ A25.out).mono ?_); rintro e w' ⟨rfl, ⟨nd, rfl⟩⟩; (try first | exact ⟨rfl, _, World.drewN_drewN _ _ _⟩ | exact ⟨rfl, _, Eq.trans (World.drewN_drewN _ _ _) (congrArg (World.drewN _) (Nat.add_assoc _ _ _))⟩))); try go_wp2_with (first | (go_at_call 15; (with_reducible refine (goods_numbers.calls (a0.extract (x5_1 : Int).toNat (t106 : Int).toNat) (a1.extract (x6_1 : Int).toNat (t107 : Int).toNat) t110 _ A25.out).mono ?_); rintro e w' ⟨rfl, ⟨nd, rfl⟩⟩; (try first | exact ⟨rfl, _, World.drewN_drewN _ _ _⟩ | exact ⟨rfl, _, Eq.trans (World.drewN_drewN _ _ _) (congrArg (World.drewN _) (Nat.add_assoc _ _ _))⟩))))
                go_roundg kj7
                case measure => have := HK1.out; have := HJ2.out; have := HJ7.out; omega
                case rel => exact ⟨(t106), (t107), (by first | rfl | (simp; done) | (simp [*]; done)), (by first | rfl | (simp; done) | (simp [*]; done)), H', ⟨by have := HK1.out; have := HJ2.out; have := HJ7.out; omega⟩, by repeat (first | exact Drawn0.refl _ | apply Drawn0.step)⟩
               ·rw [if_neg c26] at H
                have c26b0 : (t110 == 0) = false := beq_eq_false_iff_ne.mpr c26
                have c26b1 : (t110 != 0) = true := bne_iff_ne.mpr c26
                obtain rfl := Option.some.inj H
                go_wp2_with (first | (go_at_call 15; (with_reducible refine (goods_numbers.calls (a0.extract (x5_1 : Int).toNat (t106 : Int).toNat) (a1.extract (x6_1 : Int).toNat (t107 : Int).toNat) t110 _ A25.out).mono ?_); rintro e w' ⟨rfl, ⟨nd, rfl⟩⟩; (try first | exact ⟨rfl, _, World.drewN_drewN _ _ _⟩ | exact ⟨rfl, _, Eq.trans (World.drewN_drewN _ _ _) (congrArg (World.drewN _) (Nat.add_assoc _ _ _))⟩)))
                repeat (go_quiet (first | (go_at_call 15; (with_reducible refine (goods_numbers.calls (a0.extract (x5_1 : Int).toNat (t106 : Int).toNat) (a1.extract (x6_1 : Int).toNat (t107 : Int).toNat) t110 _ A25.out).mono ?_); rintro e w' ⟨rfl, ⟨nd, rfl⟩⟩; (try first | exact ⟨rfl, _, World.drewN_drewN _ _ _⟩ | exact ⟨rfl, _, Eq.trans (World.drewN_drewN _ _ _) (congrArg (World.drewN _) (Nat.add_assoc _ _ _))⟩))); try go_wp2_with (first | (go_at_call 15; (with_reducible refine (goods_numbers.calls (a0.extract (x5_1 : Int).toNat (t106 : Int).toNat) (a1.extract (x6_1 : Int).toNat (t107 : Int).toNat) t110 _ A25.out).mono ?_); rintro e w' ⟨rfl, ⟨nd, rfl⟩⟩; (try first | exact ⟨rfl, _, World.drewN_drewN _ _ _⟩ | exact ⟨rfl, _, Eq.trans (World.drewN_drewN _ _ _) (congrArg (World.drewN _) (Nat.add_assoc _ _ _))⟩))))
                go_ret
                exact ⟨by first | rfl | (simp; done) | (simp [*]; done), by repeat (first | exact Drawn0.refl _ | apply Drawn0.step)⟩
              ·rw [if_neg c24] at H
               exact absurd H (by simp)
             ·rw [if_neg c23] at H
              exact absurd H (by simp)
            ·rw [if_neg c22] at H
             exact absurd H (by simp)
           ·rw [if_neg c21] at H
            exact absurd H (by simp)
          ·rw [if_neg c20] at H
           exact absurd H (by simp)
         ·rw [if_neg c19] at H
          exact absurd H (by simp)
        ·replace c18 := Bool.eq_false_iff.mpr c18
         subst c18
         have H1 : (if 0 ≤ x5_1 then (if x5_1 < (a0.size : Int) then (if 0 ≤ x6_1 then (if x6_1 < (a1.size : Int) then (if (bt a0 x5_1) < (bt a1 x6_1) then (if (-1) = 0 then (goods_Compare.l0 kj7 a0 a1 t106 t107) else (some (-1))) else (if (bt a0 x5_1) > (bt a1 x6_1) then (if 1 = 0 then (goods_Compare.l0 kj7 a0 a1 t106 t107) else (some 1)) else (if 0 = 0 then (goods_Compare.l0 kj7 a0 a1 t106 t107) else (some 0)))) else (none)) else (none)) else (none)) else (none)) = some r := by rw [if_neg (show ¬ (false = true) by decide)] at H; exact H
         clear H
         have H := H1
         clear H1
         by_cases c27 : 0 ≤ x5_1
         ·rw [if_pos c27] at H
          have c27b0 : decide (0 ≤ x5_1) = true := decide_eq_true c27
          clear c27
          by_cases c28 : x5_1 < (a0.size : Int)
          ·rw [if_pos c28] at H
           have c28b0 : decide (x5_1 < (a0.size : Int)) = true := decide_eq_true c28
           clear c28
           by_cases c30 : 0 ≤ x6_1
           ·rw [if_pos c30] at H
            have c30b0 : decide (0 ≤ x6_1) = true := decide_eq_true c30
            clear c30
            by_cases c31 : x6_1 < (a1.size : Int)
            ·rw [if_pos c31] at H
             have c31b0 : decide (x6_1 < (a1.size : Int)) = true := decide_eq_true c31
             clear c31
             by_cases c33 : (bt a0 x5_1) < (bt a1 x6_1)
             ·rw [if_pos c33] at H
              have c33b0 : decide ((bt a0 x5_1) < (bt a1 x6_1)) = true := decide_eq_true c33
              clear c33
              by_cases c34 : (-1) = 0
              ·rw [if_pos c34] at H
               have c34b0 : ((-1) == 0) = true := beq_iff_eq.mpr c34
               have c34b1 : ((-1) != 0) = false := bne_eq_false_iff_eq.mpr c34
               clear c34
               have H' := Aside0.mk H
               clear H
               have p29 : 0 ≤ (x5_1 : Int) := of_decide_eq_true (by first | (with_reducible assumption) | assumption)
               have q29 : x5_1 < (a0.size : Int) := of_decide_eq_true (by first | (with_reducible assumption) | assumption)
               have hx29 := bt_at a0 x5_1
               replace p29 := eq_true p29
               replace q29 := eq_true q29
               have p32 : 0 ≤ (x6_1 : Int) := of_decide_eq_true (by first | (with_reducible assumption) | assumption)
               have q32 : x6_1 < (a1.size : Int) := of_decide_eq_true (by first | (with_reducible assumption) | assumption)
               have hx32 := bt_at a1 x6_1
               replace p32 := eq_true p32
               replace q32 := eq_true q32
               go_wp2
               repeat (go_quiet (fail); try go_wp2)
               go_roundg kj7
               case measure => have := HK1.out; have := HJ2.out; have := HJ7.out; omega
               case rel => exact ⟨(t106), (t107), (by first | rfl | (simp; done) | (simp [*]; done)), (by first | rfl | (simp; done) | (simp [*]; done)), H', ⟨by have := HK1.out; have := HJ2.out; have := HJ7.out; omega⟩, by repeat (first | exact Drawn0.refl _ | apply Drawn0.step)⟩
              ·rw [if_neg c34] at H
               have c34b0 : ((-1) == 0) = false := beq_eq_false_iff_ne.mpr c34
               have c34b1 : ((-1) != 0) = true := bne_iff_ne.mpr c34
               obtain rfl := Option.some.inj H
               have p29 : 0 ≤ (x5_1 : Int) := of_decide_eq_true (by first | (with_reducible assumption) | assumption)
               have q29 : x5_1 < (a0.size : Int) := of_decide_eq_true (by first | (with_reducible assumption) | assumption)
               have hx29 := bt_at a0 x5_1
               replace p29 := eq_true p29
               replace q29 := eq_true q29
               have p32 : 0 ≤ (x6_1 : Int) := of_decide_eq_true (by first | (with_reducible assumption) | assumption)
               have q32 : x6_1 < (a1.size : Int) := of_decide_eq_true (by first | (with_reducible assumption) | assumption)
               have hx32 := bt_at a1 x6_1
               replace p32 := eq_true p32
               replace q32 := eq_true q32
               go_wp2
               repeat (go_quiet (fail); try go_wp2)
               go_ret
               exact ⟨by first | rfl | (simp; done) | (simp [*]; done), by repeat (first | exact Drawn0.refl _ | apply Drawn0.step)⟩
             ·rw [if_neg c33] at H
              have c33b0 : decide ((bt a0 x5_1) < (bt a1 x6_1)) = false := decide_eq_false c33
              clear c33
              by_cases c37 : (bt a0 x5_1) > (bt a1 x6_1)
              ·rw [if_pos c37] at H
               have c37b0 : decide ((bt a1 x6_1) < (bt a0 x5_1)) = true := decide_eq_true c37
               clear c37
               by_cases c38 : 1 = 0
               ·rw [if_pos c38] at H
                exact absurd c38 (by decide)
               ·rw [if_neg c38] at H
                have c38b0 : (1 == 0) = false := beq_eq_false_iff_ne.mpr c38
                have c38b1 : (1 != 0) = true := bne_iff_ne.mpr c38
                obtain rfl := Option.some.inj H
                have p29 : 0 ≤ (x5_1 : Int) := of_decide_eq_true (by first | (with_reducible assumption) | assumption)
                have q29 : x5_1 < (a0.size : Int) := of_decide_eq_true (by first | (with_reducible assumption) | assumption)
                have hx29 := bt_at a0 x5_1
                replace p29 := eq_true p29
                replace q29 := eq_true q29
                have p32 : 0 ≤ (x6_1 : Int) := of_decide_eq_true (by first | (with_reducible assumption) | assumption)
                have q32 : x6_1 < (a1.size : Int) := of_decide_eq_true (by first | (with_reducible assumption) | assumption)
                have hx32 := bt_at a1 x6_1
                replace p32 := eq_true p32
                replace q32 := eq_true q32
                have p35 : 0 ≤ (x5_1 : Int) := of_decide_eq_true (by first | (with_reducible assumption) | assumption)
                have q35 : x5_1 < (a0.size : Int) := of_decide_eq_true (by first | (with_reducible assumption) | assumption)
                have hx35 := bt_at a0 x5_1
                replace p35 := eq_true p35
                replace q35 := eq_true q35
                have p36 : 0 ≤ (x6_1 : Int) := of_decide_eq_true (by first | (with_reducible assumption) | assumption)
                have q36 : x6_1 < (a1.size : Int) := of_decide_eq_true (by first | (with_reducible assumption) | assumption)
                have hx36 := bt_at a1 x6_1
                replace p36 := eq_true p36
                replace q36 := eq_true q36
                go_wp2
                repeat (go_quiet (fail); try go_wp2)
                go_ret
                exact ⟨by first | rfl | (simp; done) | (simp [*]; done), by repeat (first | exact Drawn0.refl _ | apply Drawn0.step)⟩
              ·rw [if_neg c37] at H
               have c37b0 : decide ((bt a1 x6_1) < (bt a0 x5_1)) = false := decide_eq_false c37
               clear c37
               by_cases c39 : 0 = 0
               ·rw [if_pos c39] at H
                have c39b0 : (0 == 0) = true := beq_iff_eq.mpr c39
                have c39b1 : (0 != 0) = false := bne_eq_false_iff_eq.mpr c39
                clear c39
                have H' := Aside0.mk H
                clear H
                have p29 : 0 ≤ (x5_1 : Int) := of_decide_eq_true (by first | (with_reducible assumption) | assumption)
                have q29 : x5_1 < (a0.size : Int) := of_decide_eq_true (by first | (with_reducible assumption) | assumption)
                have hx29 := bt_at a0 x5_1
                replace p29 := eq_true p29
                replace q29 := eq_true q29
                have p32 : 0 ≤ (x6_1 : Int) := of_decide_eq_true (by first | (with_reducible assumption) | assumption)
                have q32 : x6_1 < (a1.size : Int) := of_decide_eq_true (by first | (with_reducible assumption) | assumption)
                have hx32 := bt_at a1 x6_1
                replace p32 := eq_true p32
                replace q32 := eq_true q32
                have p35 : 0 ≤ (x5_1 : Int) := of_decide_eq_true (by first | (with_reducible assumption) | assumption)
                have q35 : x5_1 < (a0.size : Int) := of_decide_eq_true (by first | (with_reducible assumption) | assumption)
                have hx35 := bt_at a0 x5_1
                replace p35 := eq_true p35
                replace q35 := eq_true q35
                have p36 : 0 ≤ (x6_1 : Int) := of_decide_eq_true (by first | (with_reducible assumption) | assumption)
                have q36 : x6_1 < (a1.size : Int) := of_decide_eq_true (by first | (with_reducible assumption) | assumption)
                have hx36 := bt_at a1 x6_1
                replace p36 := eq_true p36
                replace q36 := eq_true q36
                go_wp2
                repeat (go_quiet (fail); try go_wp2)
                go_roundg kj7
                case measure => have := HK1.out; have := HJ2.out; have := HJ7.out; omega
                case rel => exact ⟨(t106), (t107), (by first | rfl | (simp; done) | (simp [*]; done)), (by first | rfl | (simp; done) | (simp [*]; done)), H', ⟨by have := HK1.out; have := HJ2.out; have := HJ7.out; omega⟩, by repeat (first | exact Drawn0.refl _ | apply Drawn0.step)⟩
               ·rw [if_neg c39] at H
                exact absurd rfl c39
            ·rw [if_neg c31] at H
             exact absurd H (by simp)
           ·rw [if_neg c30] at H
            exact absurd H (by simp)
          ·rw [if_neg c28] at H
           exact absurd H (by simp)
         ·rw [if_neg c27] at H
          exact absurd H (by simp)
     ·replace c5 := Bool.eq_false_iff.mpr c5
      subst c5
      have H1 : (if x5_1 < (a0.size : Int) then (some 1) else (if x6_1 < (a1.size : Int) then (some (-1)) else ((strings_Compare.f a0 a1).bind fun t111 => (some t111)))) = some r := by rw [if_neg (show ¬ (false = true) by decide)] at H; exact H
      clear H
      have H := H1
      clear H1
      by_cases c40 : x5_1 < (a0.size : Int)
      ·rw [if_pos c40] at H
       have c40b0 : decide (x5_1 < (a0.size : Int)) = true := decide_eq_true c40
       clear c40
       obtain rfl := Option.some.inj H
       go_wp2
       repeat (go_quiet (fail); try go_wp2)
       go_ret
       exact ⟨by first | rfl | (simp; done) | (simp [*]; done), by repeat (first | exact Drawn0.refl _ | apply Drawn0.step)⟩
      ·rw [if_neg c40] at H
       have c40b0 : decide (x5_1 < (a0.size : Int)) = false := decide_eq_false c40
       clear c40
       by_cases c41 : x6_1 < (a1.size : Int)
       ·rw [if_pos c41] at H
        have c41b0 : decide (x6_1 < (a1.size : Int)) = true := decide_eq_true c41
        clear c41
        obtain rfl := Option.some.inj H
        go_wp2
        repeat (go_quiet (fail); try go_wp2)
        go_ret
        exact ⟨by first | rfl | (simp; done) | (simp [*]; done), by repeat (first | exact Drawn0.refl _ | apply Drawn0.step)⟩
       ·rw [if_neg c41] at H
        have c41b0 : decide (x6_1 < (a1.size : Int)) = false := decide_eq_false c41
        clear c41
        replace H := Option.bind_eq_some_iff.mp H
        obtain ⟨t111, A420, H⟩ := H
        replace H : (some t111) = some r := H
        have A42 := Aside0.mk A420
        clear A420
        obtain rfl := Option.some.inj H
        go_wp2_with (first | (go_at_call 16; (with_reducible refine (strings_Compare.calls a0 a1 t111 _ A42.out).mono ?_); rintro e w' ⟨rfl, ⟨nd, rfl⟩⟩; (try first | exact ⟨rfl, _, World.drewN_drewN _ _ _⟩ | exact ⟨rfl, _, Eq.trans (World.drewN_drewN _ _ _) (congrArg (World.drewN _) (Nat.add_assoc _ _ _))⟩)))
        repeat (go_quiet (first | (go_at_call 16; (with_reducible refine (strings_Compare.calls a0 a1 t111 _ A42.out).mono ?_); rintro e w' ⟨rfl, ⟨nd, rfl⟩⟩; (try first | exact ⟨rfl, _, World.drewN_drewN _ _ _⟩ | exact ⟨rfl, _, Eq.trans (World.drewN_drewN _ _ _) (congrArg (World.drewN _) (Nat.add_assoc _ _ _))⟩))); try go_wp2_with (first | (go_at_call 16; (with_reducible refine (strings_Compare.calls a0 a1 t111 _ A42.out).mono ?_); rintro e w' ⟨rfl, ⟨nd, rfl⟩⟩; (try first | exact ⟨rfl, _, World.drewN_drewN _ _ _⟩ | exact ⟨rfl, _, Eq.trans (World.drewN_drewN _ _ _) (congrArg (World.drewN _) (Nat.add_assoc _ _ _))⟩))))
        go_ret
        exact ⟨by first | rfl | (simp; done) | (simp [*]; done), by repeat (first | exact Drawn0.refl _ | apply Drawn0.step)⟩

end Go.Proofs.YthkpmldjbogngaaDoor.S
