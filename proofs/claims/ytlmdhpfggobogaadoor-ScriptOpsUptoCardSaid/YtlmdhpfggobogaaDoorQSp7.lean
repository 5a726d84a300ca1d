import Derived.Test.YtlmdhpfggobogaaDoorQSp5
-- PRINTED by print.py (a twelfth state) out of the translation. Not trusted: Lean checks it.
namespace Go.Proofs.YtlmdhpfggobogaaDoor.G
open Go.RowKit Go.Proofs.YtlmdhpfggobogaaDoorW.PrintWords Go.Proofs.YtlmdhpfggobogaaDoorW.PrintLast Go.Proofs.YtlmdhpfggobogaaDoorW.PrintMore
attribute [local go_sem] max2_int min2_int max_two min_two max_three min_three max_four min_four   -- for this text's walks alone
set_option linter.unusedVariables false
set_option linter.unusedSimpArgs false

/-! ### barrowref24_numberOf: function 62 -/
mutual
def barrowref24_numberOf.j0 : Nat → ByteArray → Bool → Option (Int × Bool)
 | 0, _, _ => none
 | k + 1, x0, x4 => if x4 = true then (if 1 ≤ (x0.size : Int) then (barrowref24_numberOf.j1 k x4 (x0.extract 1 x0.size)) else (none)) else (barrowref24_numberOf.j1 k x4 x0)
def barrowref24_numberOf.j1 : Nat → Bool → ByteArray → Option (Int × Bool)
 | 0, _, _ => none
 | k + 1, x4, x5 => if (x5.size : Int) = 0 then (barrowref24_numberOf.j2 k x4 x5 true) else (if (x5.size : Int) > 19 then (barrowref24_numberOf.j2 k x4 x5 true) else (if 0 < (x5.size : Int) then (if (bt x5 0) = 48 then (if x4 = true then (barrowref24_numberOf.j2 k x4 x5 true) else (barrowref24_numberOf.j2 k x4 x5 (decide ((x5.size : Int) > 1)))) else (barrowref24_numberOf.j2 k x4 x5 false)) else (none)))
def barrowref24_numberOf.j2 : Nat → Bool → ByteArray → Bool → Option (Int × Bool)
 | 0, _, _, _ => none
 | k + 1, x4, x5, x41 => if x41 = true then (some (0, false)) else (barrowref24_numberOf.l0 k x4 x5 0 0)
def barrowref24_numberOf.l0 : Nat → Bool → ByteArray → Int → Int → Option (Int × Bool)
 | 0, _, _, _, _ => none
 | k + 1, x4, x5, x6, x7 => if x7 < (x5.size : Int) then (if 0 ≤ x7 then (if (bt x5 x7) < 48 then (barrowref24_numberOf.j4 k x4 x5 x6 x7 true) else (barrowref24_numberOf.j4 k x4 x5 x6 x7 (decide ((bt x5 x7) > 57)))) else (none)) else (if x4 = true then (some (x6, true)) else (if x6 = (-9223372036854775808) then (some (0, false)) else (some (wrap64 (-x6), true))))
def barrowref24_numberOf.j4 : Nat → Bool → ByteArray → Int → Int → Bool → Option (Int × Bool)
 | 0, _, _, _, _, _ => none
 | k + 1, x4, x5, x6, x7, x57 => if x57 = true then (some (0, false)) else (if 0 ≤ x7 then (if x7 < (x5.size : Int) then (if x6 < (Int.tdiv ((-9223372036854775808) + (((bt x5 x7) - 48) % 256)) 10) then (some (0, false)) else (if (wrap64 (10 * x6)) < ((-9223372036854775808) + (((bt x5 x7) - 48) % 256)) then (some (0, false)) else (barrowref24_numberOf.l0 k x4 x5 (wrap64 ((wrap64 (10 * x6)) - (((bt x5 x7) - 48) % 256))) (wrap64 (x7 + 1))))) else (none)) else (none))
end
def barrowref24_numberOf.f (k : Nat) (a0 : ByteArray) : Option (Int × Bool) := if (a0.size : Int) > 0 then (if 0 < (a0.size : Int) then (barrowref24_numberOf.j0 k a0 ((bt a0 0) == 45)) else (none)) else (barrowref24_numberOf.j0 k a0 false)
set_option maxHeartbeats 8000000 in
set_option maxRecDepth 100000 in
theorem barrowref24_numberOf.calls (k : Nat) (a0 : ByteArray) (r1 : Int) (r2 : Bool) (w : World) (h : barrowref24_numberOf.f k a0 = some (r1, r2)) :
  Calls Tryd.prog 62 #[.string a0] w fun e w' => e = .returned (.tuple #[.int .i64 r1, .bool r2]) ∧ Drawn0 w w' := by
 have H : (if (a0.size : Int) > 0 then (if 0 < (a0.size : Int) then (barrowref24_numberOf.j0 k a0 ((bt a0 0) == 45)) else (none)) else (barrowref24_numberOf.j0 k a0 false)) = some (r1, r2) := h
 clear h
 have HC2 := Aside0.mk H
 clear H
 go_enter Tryd.func62, Tryd.ntmps62
 go_upto_region 1 with (fail)
 go_cut [4] (fun v4 wc => ∃ (kq : Nat) (x4_1 : Bool), v4 = .bool x4_1 ∧ Aside0 (barrowref24_numberOf.j0 kq a0 x4_1 = some (r1, r2)) ∧ Aside0 (kq ≤ k) ∧ Drawn0 w wc)
 case first =>
  have H := HC2.out
  clear HC2
  by_cases c3 : (a0.size : Int) > 0
  ·rw [if_pos c3] at H
   have c3b0 : decide (0 < (a0.size : Int)) = true := decide_eq_true c3
   have c3b1 : decide (0 < a0.size) = true := decide_eq_true (by omega)
   clear c3
   (first | rw [c3b0] | (simp only [i64_w, i32_w]; rw [c3b0]) | skip)
   by_cases c4 : 0 < (a0.size : Int)
   ·rw [if_pos c4] at H
    have c4b0 : decide (0 < (a0.size : Int)) = true := decide_eq_true c4
    have c4b1 : decide (0 < a0.size) = true := decide_eq_true (by omega)
    clear c4
    have H' := Aside0.mk H
    clear H
    have p5 : 0 ≤ (0 : Int) := (by omega)
    have q5 : 0 < a0.size := (by have : (0 : Int) < (a0.size : Int) := of_decide_eq_true (by first | (with_reducible assumption) | assumption); omega)
    have hx5 : ∀ h : 0 < a0.size, ((a0[0]'h).toNat : Int) = bt a0 0 := bt_at a0 0
    clear p5
    have qi5 : (0 < (a0.size : Int)) = True := eq_true (of_decide_eq_true (by first | (with_reducible assumption) | assumption))
    replace q5 := eq_true q5
    go_wp2
    go_meet
    case rel => exact ⟨_, (((bt a0 0) == 45)), (by first | rfl | (simp; done) | (simp [*]; done)), H', ⟨by first | omega | exact Nat.le_refl _⟩, by repeat (first | exact Drawn0.refl _ | apply Drawn0.step)⟩
   ·rw [if_neg c4] at H
    exact absurd H (by simp)
  ·rw [if_neg c3] at H
   have c3b0 : decide (0 < (a0.size : Int)) = false := decide_eq_false c3
   have c3b1 : decide (0 < a0.size) = false := decide_eq_false (by omega)
   clear c3
   (first | rw [c3b0] | (simp only [i64_w, i32_w]; rw [c3b0]) | skip)
   have H' := Aside0.mk H
   clear H
   go_wp2
   go_meet
   case rel => exact ⟨_, (false), (by first | rfl | (simp; done) | (simp [*]; done)), H', ⟨by first | omega | exact Nat.le_refl _⟩, by repeat (first | exact Drawn0.refl _ | apply Drawn0.step)⟩
 case rest =>
  clear HC2
  try clear p2
  try clear c3
  try clear c3b0
  try clear c3b1
  try clear c4
  try clear c4b0
  try clear c4b1
  try clear p5
  try clear q5
  try clear hx5
  try clear qi5
  try clear p5
  try clear q5
  obtain ⟨kq, x4_1, rfl, HA, HJ1, ⟨mc1, rfl⟩⟩ := hcut
  cases kq with
  | zero => exact absurd HA.out (by simp [barrowref24_numberOf.j0])
  | succ kj1 =>
   have H := HA.out
   clear HA
   simp only [barrowref24_numberOf.j0] at H
   have HC6 := Aside0.mk H
   clear H
   go_upto_if 18 with (fail)
   go_cut [5] (fun v5 wc => ∃ (kq : Nat) (x5_5 : ByteArray), v5 = .string x5_5 ∧ Aside0 (barrowref24_numberOf.j1 kq x4_1 x5_5 = some (r1, r2)) ∧ Aside0 (kq ≤ kj1) ∧ Drawn0 w wc)
   case first =>
    have H := HC6.out
    clear HC6
    by_cases c7 : x4_1 = true
    ·subst c7
     have H1 : (if 1 ≤ (a0.size : Int) then (barrowref24_numberOf.j1 kj1 true (a0.extract 1 a0.size)) else (none)) = some (r1, r2) := by rw [if_pos rfl] at H; exact H
     clear H
     have H := H1
     clear H1
     by_cases c8 : 1 ≤ (a0.size : Int)
     ·rw [if_pos c8] at H
      have c8b0 := eq_true c8
      have c8b1 : decide (1 ≤ (a0.size : Int)) = true := decide_eq_true c8
      clear c8
      have H' := Aside0.mk H
      clear H
      go_wp2
      go_meet
      case rel => exact ⟨_, (a0.extract 1 a0.size), (by first | rfl | (simp; done) | (simp [*]; done)), H', ⟨by have := HJ1.out; first | omega | exact Nat.le_refl _⟩, by repeat (first | exact Drawn0.refl _ | apply Drawn0.step)⟩
     ·rw [if_neg c8] at H
      exact absurd H (by simp)
    ·replace c7 := Bool.eq_false_iff.mpr c7
     subst c7
     have H1 : (barrowref24_numberOf.j1 kj1 false a0) = some (r1, r2) := by rw [if_neg (show ¬ (false = true) by decide)] at H; exact H
     clear H
     have H := H1
     clear H1
     have H' := Aside0.mk H
     clear H
     go_wp2
     go_meet
     case rel => exact ⟨_, (a0), (by first | rfl | (simp; done) | (simp [*]; done)), H', ⟨by have := HJ1.out; first | omega | exact Nat.le_refl _⟩, by repeat (first | exact Drawn0.refl _ | apply Drawn0.step)⟩
   case rest =>
    clear HC6
    try clear c1
    try clear p2
    try clear c3
    try clear c3b0
    try clear c3b1
    try clear c4
    try clear c4b0
    try clear c4b1
    try clear p5
    try clear q5
    try clear hx5
    try clear qi5
    try clear c6
    try clear c7
    try clear c8
    try clear c8b0
    try clear c8b1
    try clear p2
    try clear p5
    try clear q5
    obtain ⟨kq, x5_5, rfl, HA, HJ5, ⟨mc5, rfl⟩⟩ := hcut
    cases kq with
    | zero => exact absurd HA.out (by simp [barrowref24_numberOf.j1])
    | succ kj5 =>
     have H := HA.out
     clear HA
     simp only [barrowref24_numberOf.j1] at H
     have HC9 := Aside0.mk H
     clear H
     go_upto_region 5 with (fail)
     go_cut [41] (fun v41 wc => ∃ (kq : Nat) (x41_8 : Bool), v41 = .bool x41_8 ∧ Aside0 (barrowref24_numberOf.j2 kq x4_1 x5_5 x41_8 = some (r1, r2)) ∧ Aside0 (kq ≤ kj5) ∧ Drawn0 w wc)
     case first =>
      have H := HC9.out
      clear HC9
      by_cases c10 : (x5_5.size : Int) = 0
      ·rw [if_pos c10] at H
       have c10b0 : ((x5_5.size : Int) == 0) = true := beq_iff_eq.mpr c10
       have c10b1 : ((x5_5.size : Int) != 0) = false := bne_eq_false_iff_eq.mpr c10
       clear c10
       (first | rw [c10b0] | (simp only [i64_w, i32_w]; rw [c10b0]) | skip)
       have H' := Aside0.mk H
       clear H
       go_wp2
       go_meet
       case rel => exact ⟨_, (true), (by first | rfl | (simp; done) | (simp [*]; done)), H', ⟨by have := HJ1.out; have := HJ5.out; first | omega | exact Nat.le_refl _⟩, by repeat (first | exact Drawn0.refl _ | apply Drawn0.step)⟩
      ·rw [if_neg c10] at H
       have c10b0 : ((x5_5.size : Int) == 0) = false := beq_eq_false_iff_ne.mpr c10
       have c10b1 : ((x5_5.size : Int) != 0) = true := bne_iff_ne.mpr c10
       (first | rw [c10b0] | (simp only [i64_w, i32_w]; rw [c10b0]) | skip)
       by_cases c11 : (x5_5.size : Int) > 19
       ·rw [if_pos c11] at H
        have c11b0 : decide (19 < (x5_5.size : Int)) = true := decide_eq_true c11
        have c11b1 : decide (19 < x5_5.size) = true := decide_eq_true (by omega)
        clear c11
        have H' := Aside0.mk H
        clear H
        go_wp2
        go_meet
        case rel => exact ⟨_, (true), (by first | rfl | (simp; done) | (simp [*]; done)), H', ⟨by have := HJ1.out; have := HJ5.out; first | omega | exact Nat.le_refl _⟩, by repeat (first | exact Drawn0.refl _ | apply Drawn0.step)⟩
       ·rw [if_neg c11] at H
        have c11b0 : decide (19 < (x5_5.size : Int)) = false := decide_eq_false c11
        have c11b1 : decide (19 < x5_5.size) = false := decide_eq_false (by omega)
        clear c11
        by_cases c12 : 0 < (x5_5.size : Int)
        ·rw [if_pos c12] at H
         have c12b0 : decide (0 < (x5_5.size : Int)) = true := decide_eq_true c12
         have c12b1 : decide (0 < x5_5.size) = true := decide_eq_true (by omega)
         clear c12
         by_cases c14 : (bt x5_5 0) = 48
         ·rw [if_pos c14] at H
          have c14b0 : ((bt x5_5 0) == 48) = true := beq_iff_eq.mpr c14
          have c14b1 : ((bt x5_5 0) != 48) = false := bne_eq_false_iff_eq.mpr c14
          clear c14
          by_cases c15 : x4_1 = true
          ·subst c15
           have H1 : (barrowref24_numberOf.j2 kj5 true x5_5 true) = some (r1, r2) := by rw [if_pos rfl] at H; exact H
           clear H
           have H := H1
           clear H1
           have H' := Aside0.mk H
           clear H
           have p13 : 0 ≤ (0 : Int) := (by omega)
           have q13 : 0 < x5_5.size := (by have : (0 : Int) < (x5_5.size : Int) := of_decide_eq_true (by first | (with_reducible assumption) | assumption); omega)
           have hx13 : ∀ h : 0 < x5_5.size, ((x5_5[0]'h).toNat : Int) = bt x5_5 0 := bt_at x5_5 0
           clear p13
           have qi13 : (0 < (x5_5.size : Int)) = True := eq_true (of_decide_eq_true (by first | (with_reducible assumption) | assumption))
           replace q13 := eq_true q13
           go_wp2
           go_meet
           case rel => exact ⟨_, (true), (by first | rfl | (simp; done) | (simp [*]; done)), H', ⟨by have := HJ1.out; have := HJ5.out; first | omega | exact Nat.le_refl _⟩, by repeat (first | exact Drawn0.refl _ | apply Drawn0.step)⟩
          ·replace c15 := Bool.eq_false_iff.mpr c15
           subst c15
           have H1 : (barrowref24_numberOf.j2 kj5 false x5_5 (decide ((x5_5.size : Int) > 1))) = some (r1, r2) := by rw [if_neg (show ¬ (false = true) by decide)] at H; exact H
           clear H
           have H := H1
           clear H1
           have H' := Aside0.mk H
           clear H
           have p13 : 0 ≤ (0 : Int) := (by omega)
           have q13 : 0 < x5_5.size := (by have : (0 : Int) < (x5_5.size : Int) := of_decide_eq_true (by first | (with_reducible assumption) | assumption); omega)
           have hx13 : ∀ h : 0 < x5_5.size, ((x5_5[0]'h).toNat : Int) = bt x5_5 0 := bt_at x5_5 0
           clear p13
           have qi13 : (0 < (x5_5.size : Int)) = True := eq_true (of_decide_eq_true (by first | (with_reducible assumption) | assumption))
           replace q13 := eq_true q13
           go_wp2
           go_meet
           case rel => exact ⟨_, (decide ((x5_5.size : Int) > 1)), (by first | rfl | (simp; done) | (simp [*]; done)), H', ⟨by have := HJ1.out; have := HJ5.out; first | omega | exact Nat.le_refl _⟩, by repeat (first | exact Drawn0.refl _ | apply Drawn0.step)⟩
         ·rw [if_neg c14] at H
          have c14b0 : ((bt x5_5 0) == 48) = false := beq_eq_false_iff_ne.mpr c14
          have c14b1 : ((bt x5_5 0) != 48) = true := bne_iff_ne.mpr c14
          have H' := Aside0.mk H
          clear H
          have p13 : 0 ≤ (0 : Int) := (by omega)
          have q13 : 0 < x5_5.size := (by have : (0 : Int) < (x5_5.size : Int) := of_decide_eq_true (by first | (with_reducible assumption) | assumption); omega)
          have hx13 : ∀ h : 0 < x5_5.size, ((x5_5[0]'h).toNat : Int) = bt x5_5 0 := bt_at x5_5 0
          clear p13
          have qi13 : (0 < (x5_5.size : Int)) = True := eq_true (of_decide_eq_true (by first | (with_reducible assumption) | assumption))
          replace q13 := eq_true q13
          go_wp2
          go_meet
          case rel => exact ⟨_, (false), (by first | rfl | (simp; done) | (simp [*]; done)), H', ⟨by have := HJ1.out; have := HJ5.out; first | omega | exact Nat.le_refl _⟩, by repeat (first | exact Drawn0.refl _ | apply Drawn0.step)⟩
        ·rw [if_neg c12] at H
         exact absurd H (by simp)
     case rest =>
      clear HC9
      try clear c1
      try clear p1
      try clear q1
      try clear hx1
      try clear qi1
      try clear p2
      try clear c3
      try clear c3b0
      try clear c3b1
      try clear c4
      try clear c4b0
      try clear c4b1
      try clear c5
      try clear p5
      try clear q5
      try clear hx5
      try clear qi5
      try clear c6
      try clear c7
      try clear c8
      try clear c8b0
      try clear c8b1
      try clear c10
      try clear c10b0
      try clear c10b1
      try clear c11
      try clear c11b0
      try clear c11b1
      try clear c12
      try clear c12b0
      try clear c12b1
      try clear p13
      try clear q13
      try clear hx13
      try clear qi13
      try clear c14
      try clear c14b0
      try clear c14b1
      try clear c15
      try clear p13
      try clear p2
      try clear p5
      try clear q13
      try clear q5
      obtain ⟨kq, x41_8, rfl, HA, HJ8, ⟨mc8, rfl⟩⟩ := hcut
      cases kq with
      | zero => exact absurd HA.out (by simp [barrowref24_numberOf.j2])
      | succ kj8 =>
       have H := HA.out
       clear HA
       simp only [barrowref24_numberOf.j2] at H
       by_cases c16 : x41_8 = true
       ·subst c16
        have H1 : (some (0, false)) = some (r1, r2) := by rw [if_pos rfl] at H; exact H
        clear H
        have H := H1
        clear H1
        simp only [Option.some.injEq, Prod.mk.injEq] at H
        obtain ⟨rfl, rfl⟩ := H
        go_wp2
        go_ret2
        exact ⟨by first | rfl | (simp; done) | (simp [*]; done), by repeat (first | exact Drawn0.refl _ | apply Drawn0.step)⟩
       ·replace c16 := Bool.eq_false_iff.mpr c16
        subst c16
        have H1 : (barrowref24_numberOf.l0 kj8 x4_1 x5_5 0 0) = some (r1, r2) := by rw [if_neg (show ¬ (false = true) by decide)] at H; exact H
        clear H
        have H := H1
        clear H1
        have H' := Aside0.mk H
        clear H
        go_wp2
        go_loopg [6, 7] kj8 (fun kq v6 v7 w' => ∃ (x6_4 : Int) (x7_4 : Int), v6 = .int .i64 x6_4 ∧ v7 = .int .i64 x7_4 ∧ Aside0 (barrowref24_numberOf.l0 kq x4_1 x5_5 x6_4 x7_4 = some (r1, r2)) ∧ Aside0 (kq ≤ kj8) ∧ Drawn0 w w')
        case atStart => exact ⟨(0), (0), (by first | rfl | (simp; done) | (simp [*]; done)), (by first | rfl | (simp; done) | (simp [*]; done)), H', ⟨Nat.le_refl _⟩, by repeat (first | exact Drawn0.refl _ | apply Drawn0.step)⟩
        case round =>
         clear H'
         try clear c1
         try clear p1
         try clear q1
         try clear hx1
         try clear qi1
         try clear p2
         try clear c3
         try clear c3b0
         try clear c3b1
         try clear c4
         try clear c4b0
         try clear c4b1
         try clear c5
         try clear p5
         try clear q5
         try clear hx5
         try clear qi5
         try clear c6
         try clear c7
         try clear c8
         try clear c8b0
         try clear c8b1
         try clear c10
         try clear c10b0
         try clear c10b1
         try clear c11
         try clear c11b0
         try clear c11b1
         try clear c12
         try clear c12b0
         try clear c12b1
         try clear p13
         try clear q13
         try clear hx13
         try clear qi13
         try clear c14
         try clear c14b0
         try clear c14b1
         try clear c15
         try clear c16
         try clear p1
         try clear p13
         try clear p2
         try clear p5
         try clear q1
         try clear q13
         try clear q5
         obtain ⟨x6_4, x7_4, rfl, rfl, HA, HK4, ⟨m4, rfl⟩⟩ := hrel
         cases gk with
         | zero => exact absurd HA.out (by simp [barrowref24_numberOf.l0])
         | succ k4 =>
          have H := HA.out
          clear HA
          simp only [barrowref24_numberOf.l0] at H
          by_cases c17 : x7_4 < (x5_5.size : Int)
          ·rw [if_pos c17] at H
           have c17b0 : decide (x7_4 < (x5_5.size : Int)) = true := decide_eq_true c17
           clear c17
           have HC18 := Aside0.mk H
           clear H
           go_upto_region 11 with (fail)
           go_cut [57] (fun v57 wc => ∃ (kq : Nat) (x57_17 : Bool), v57 = .bool x57_17 ∧ Aside0 (barrowref24_numberOf.j4 kq x4_1 x5_5 x6_4 x7_4 x57_17 = some (r1, r2)) ∧ Aside0 (kq ≤ k4) ∧ Drawn0 w wc)
           case first =>
            have H := HC18.out
            clear HC18
            by_cases c19 : 0 ≤ x7_4
            ·rw [if_pos c19] at H
             have c19b0 : decide (0 ≤ x7_4) = true := decide_eq_true c19
             clear c19
             (first | rw [c19b0] | (simp only [i64_w, i32_w]; rw [c19b0]) | skip)
             by_cases c21 : (bt x5_5 x7_4) < 48
             ·rw [if_pos c21] at H
              have c21b0 : decide ((bt x5_5 x7_4) < 48) = true := decide_eq_true c21
              clear c21
              have H' := Aside0.mk H
              clear H
              have p20 : 0 ≤ (x7_4 : Int) := of_decide_eq_true (by first | (with_reducible assumption) | assumption)
              have q20 : x7_4 < (x5_5.size : Int) := of_decide_eq_true (by first | (with_reducible assumption) | assumption)
              have hx20 := bt_at x5_5 x7_4
              replace p20 := eq_true p20
              replace q20 := eq_true q20
              go_wp2
              go_meet
              case rel => exact ⟨_, (true), (by first | rfl | (simp; done) | (simp [*]; done)), H', ⟨by have := HJ1.out; have := HJ5.out; have := HJ8.out; have := HK4.out; first | omega | exact Nat.le_refl _⟩, by repeat (first | exact Drawn0.refl _ | apply Drawn0.step)⟩
             ·rw [if_neg c21] at H
              have c21b0 : decide ((bt x5_5 x7_4) < 48) = false := decide_eq_false c21
              clear c21
              have H' := Aside0.mk H
              clear H
              have p20 : 0 ≤ (x7_4 : Int) := of_decide_eq_true (by first | (with_reducible assumption) | assumption)
              have q20 : x7_4 < (x5_5.size : Int) := of_decide_eq_true (by first | (with_reducible assumption) | assumption)
              have hx20 := bt_at x5_5 x7_4
              replace p20 := eq_true p20
              replace q20 := eq_true q20
              have p22 : 0 ≤ (x7_4 : Int) := of_decide_eq_true (by first | (with_reducible assumption) | assumption)
              have q22 : x7_4 < (x5_5.size : Int) := of_decide_eq_true (by first | (with_reducible assumption) | assumption)
              have hx22 := bt_at x5_5 x7_4
              replace p22 := eq_true p22
              replace q22 := eq_true q22
              go_wp2
              go_meet
              case rel => exact ⟨_, (decide ((bt x5_5 x7_4) > 57)), (by first | rfl | (simp; done) | (simp [*]; done)), H', ⟨by have := HJ1.out; have := HJ5.out; have := HJ8.out; have := HK4.out; first | omega | exact Nat.le_refl _⟩, by repeat (first | exact Drawn0.refl _ | apply Drawn0.step)⟩
            ·rw [if_neg c19] at H
             exact absurd H (by simp)
           case rest =>
            clear HC18
            try clear c1
            try clear p1
            try clear q1
            try clear hx1
            try clear qi1
            try clear c2
            try clear p2
            try clear q2
            try clear hx2
            try clear c3
            try clear c3b0
            try clear c3b1
            try clear c4
            try clear c4b0
            try clear c4b1
            try clear c5
            try clear p5
            try clear q5
            try clear hx5
            try clear qi5
            try clear c6
            try clear c7
            try clear c8
            try clear c8b0
            try clear c8b1
            try clear c10
            try clear c10b0
            try clear c10b1
            try clear c11
            try clear c11b0
            try clear c11b1
            try clear c12
            try clear c12b0
            try clear c12b1
            try clear p13
            try clear q13
            try clear hx13
            try clear qi13
            try clear c14
            try clear c14b0
            try clear c14b1
            try clear c15
            try clear c16
            try clear c17
            try clear c17b0
            try clear c19
            try clear c19b0
            try clear p20
            try clear q20
            try clear hx20
            try clear c21
            try clear c21b0
            try clear p22
            try clear q22
            try clear hx22
            try clear p1
            try clear p13
            try clear p2
            try clear p20
            try clear p22
            try clear p5
            try clear q1
            try clear q13
            try clear q20
            try clear q22
            try clear q5
            obtain ⟨kq, x57_17, rfl, HA, HJ17, ⟨mc17, rfl⟩⟩ := hcut
            cases kq with
            | zero => exact absurd HA.out (by simp [barrowref24_numberOf.j4])
            | succ kj17 =>
             have H := HA.out
             clear HA
             simp only [barrowref24_numberOf.j4] at H
             by_cases c23 : x57_17 = true
             ·subst c23
              have H1 : (some (0, false)) = some (r1, r2) := by rw [if_pos rfl] at H; exact H
              clear H
              have H := H1
              clear H1
              simp only [Option.some.injEq, Prod.mk.injEq] at H
              obtain ⟨rfl, rfl⟩ := H
              go_wp2
              go_ret2
              exact ⟨by first | rfl | (simp; done) | (simp [*]; done), by repeat (first | exact Drawn0.refl _ | apply Drawn0.step)⟩
             ·replace c23 := Bool.eq_false_iff.mpr c23
              subst c23
              have H1 : (if 0 ≤ x7_4 then (if x7_4 < (x5_5.size : Int) then (if x6_4 < (Int.tdiv ((-9223372036854775808) + (((bt x5_5 x7_4) - 48) % 256)) 10) then (some (0, false)) else (if (wrap64 (10 * x6_4)) < ((-9223372036854775808) + (((bt x5_5 x7_4) - 48) % 256)) then (some (0, false)) else (barrowref24_numberOf.l0 kj17 x4_1 x5_5 (wrap64 ((wrap64 (10 * x6_4)) - (((bt x5_5 x7_4) - 48) % 256))) (wrap64 (x7_4 + 1))))) else (none)) else (none)) = some (r1, r2) := by rw [if_neg (show ¬ (false = true) by decide)] at H; exact H
              clear H
              have H := H1
              clear H1
              by_cases c24 : 0 ≤ x7_4
              ·rw [if_pos c24] at H
               have c24b0 : decide (0 ≤ x7_4) = true := decide_eq_true c24
               clear c24
               by_cases c25 : x7_4 < (x5_5.size : Int)
               ·rw [if_pos c25] at H
                have c25b0 : decide (x7_4 < (x5_5.size : Int)) = true := decide_eq_true c25
                clear c25
                by_cases c27 : x6_4 < (Int.tdiv ((-9223372036854775808) + (((bt x5_5 x7_4) - 48) % 256)) 10)
                ·rw [if_pos c27] at H
                 have c27b0 : decide (x6_4 < (Int.tdiv ((-9223372036854775808) + (((bt x5_5 x7_4) - 48) % 256)) 10)) = true := decide_eq_true c27
                 clear c27
                 simp only [Option.some.injEq, Prod.mk.injEq] at H
                 obtain ⟨rfl, rfl⟩ := H
                 have p26 : 0 ≤ (x7_4 : Int) := of_decide_eq_true (by first | (with_reducible assumption) | assumption)
                 have q26 : x7_4 < (x5_5.size : Int) := of_decide_eq_true (by first | (with_reducible assumption) | assumption)
                 have hx26 := bt_at x5_5 x7_4
                 replace p26 := eq_true p26
                 replace q26 := eq_true q26
                 go_wp2
                 go_ret2
                 exact ⟨by first | rfl | (simp; done) | (simp [*]; done), by repeat (first | exact Drawn0.refl _ | apply Drawn0.step)⟩
                ·rw [if_neg c27] at H
                 have c27b0 : decide (x6_4 < (Int.tdiv ((-9223372036854775808) + (((bt x5_5 x7_4) - 48) % 256)) 10)) = false := decide_eq_false c27
                 clear c27
                 by_cases c28 : (wrap64 (10 * x6_4)) < ((-9223372036854775808) + (((bt x5_5 x7_4) - 48) % 256))
                 ·rw [if_pos c28] at H
                  have c28b0 : decide ((wrap64 (10 * x6_4)) < ((-9223372036854775808) + (((bt x5_5 x7_4) - 48) % 256))) = true := decide_eq_true c28
                  clear c28
                  simp only [Option.some.injEq, Prod.mk.injEq] at H
                  obtain ⟨rfl, rfl⟩ := H
                  have p26 : 0 ≤ (x7_4 : Int) := of_decide_eq_true (by first | (with_reducible assumption) | assumption)
                  have q26 : x7_4 < (x5_5.size : Int) := of_decide_eq_true (by first | (with_reducible assumption) | assumption)
                  have hx26 := bt_at x5_5 x7_4
                  replace p26 := eq_true p26
                  replace q26 := eq_true q26
                  go_wp2
                  go_ret2
                  exact ⟨by first | rfl | (simp; done) | (simp [*]; done), by repeat (first | exact Drawn0.refl _ | apply Drawn0.step)⟩
                 ·rw [if_neg c28] at H
                  have c28b0 : decide ((wrap64 (10 * x6_4)) < ((-9223372036854775808) + (((bt x5_5 x7_4) - 48) % 256))) = false := decide_eq_false c28
                  clear c28
                  have H' := Aside0.mk H
                  clear H
                  have p26 : 0 ≤ (x7_4 : Int) := of_decide_eq_true (by first | (with_reducible assumption) | assumption)
                  have q26 : x7_4 < (x5_5.size : Int) := of_decide_eq_true (by first | (with_reducible assumption) | assumption)
                  have hx26 := bt_at x5_5 x7_4
                  replace p26 := eq_true p26
                  replace q26 := eq_true q26
                  go_wp2
                  go_roundg kj17
                  case measure => have := HJ1.out; have := HJ5.out; have := HJ8.out; have := HK4.out; have := HJ17.out; omega
                  case rel => exact ⟨(wrap64 ((wrap64 (10 * x6_4)) - (((bt x5_5 x7_4) - 48) % 256))), (wrap64 (x7_4 + 1)), (by first | rfl | (simp; done) | (simp [*]; done)), (by first | rfl | (simp; done) | (simp [*]; done)), H', ⟨by have := HJ1.out; have := HJ5.out; have := HJ8.out; have := HK4.out; have := HJ17.out; omega⟩, by repeat (first | exact Drawn0.refl _ | apply Drawn0.step)⟩
               ·rw [if_neg c25] at H
                exact absurd H (by simp)
              ·rw [if_neg c24] at H
               exact absurd H (by simp)
          ·rw [if_neg c17] at H
           have c17b0 : decide (x7_4 < (x5_5.size : Int)) = false := decide_eq_false c17
           clear c17
           by_cases c29 : x4_1 = true
           ·subst c29
            have H1 : (some (x6_4, true)) = some (r1, r2) := by rw [if_pos rfl] at H; exact H
            clear H
            have H := H1
            clear H1
            simp only [Option.some.injEq, Prod.mk.injEq] at H
            obtain ⟨rfl, rfl⟩ := H
            go_wp2
            go_ret2
            exact ⟨by first | rfl | (simp; done) | (simp [*]; done), by repeat (first | exact Drawn0.refl _ | apply Drawn0.step)⟩
           ·replace c29 := Bool.eq_false_iff.mpr c29
            subst c29
            have H1 : (if x6_4 = (-9223372036854775808) then (some (0, false)) else (some (wrap64 (-x6_4), true))) = some (r1, r2) := by rw [if_neg (show ¬ (false = true) by decide)] at H; exact H
            clear H
            have H := H1
            clear H1
            by_cases c30 : x6_4 = (-9223372036854775808)
            ·rw [if_pos c30] at H
             have c30b0 : (x6_4 == (-9223372036854775808)) = true := beq_iff_eq.mpr c30
             have c30b1 : (x6_4 != (-9223372036854775808)) = false := bne_eq_false_iff_eq.mpr c30
             clear c30
             simp only [Option.some.injEq, Prod.mk.injEq] at H
             obtain ⟨rfl, rfl⟩ := H
             go_wp2
             go_ret2
             exact ⟨by first | rfl | (simp; done) | (simp [*]; done), by repeat (first | exact Drawn0.refl _ | apply Drawn0.step)⟩
            ·rw [if_neg c30] at H
             have c30b0 : (x6_4 == (-9223372036854775808)) = false := beq_eq_false_iff_ne.mpr c30
             have c30b1 : (x6_4 != (-9223372036854775808)) = true := bne_iff_ne.mpr c30
             simp only [Option.some.injEq, Prod.mk.injEq] at H
             obtain ⟨rfl, rfl⟩ := H
             go_wp2
             go_ret2
             exact ⟨by first | rfl | (simp; done) | (simp [*]; done), by repeat (first | exact Drawn0.refl _ | apply Drawn0.step)⟩

end Go.Proofs.YtlmdhpfggobogaaDoor.G
