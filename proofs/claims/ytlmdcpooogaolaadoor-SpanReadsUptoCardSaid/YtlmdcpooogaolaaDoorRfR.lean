/- The reference's numbers, pieces and texts. -/
import Derived.Test.YtlmdcpooogaolaaDoorRel
import Derived.Test.YtlmdcpooogaolaaDoorRfN
import Derived.Test.YtlmdcpooogaolaaDoorGx10
import Derived.Test.YtlmdcpooogaolaaDoorGx11
import Derived.Test.YtlmdcpooogaolaaDoorGx13
import Derived.Test.YtlmdcpooogaolaaDoorGx14
import Derived.Test.YtlmdcpooogaolaaDoorGx15
namespace Go.Proofs.YtlmdcpooogaolaaDoor.Txt
open Go.RowKit Go.Proofs.YtlmdcpooogaolaaDoor.G Go.Proofs.YtlmdcpooogaolaaDoor.Dec Go.Proofs.YtlmdcpooogaolaaDoor.Pure Go.Proofs.YtlmdcpooogaolaaDoorW.PrintWords Go.Proofs.YtlmdcpooogaolaaDoorW.PrintLast
set_option linter.unusedVariables false
/-! ### A number -/
theorem refNumber_l0 (s : ByteArray) (hs : s.size ≤ 10) : ∀ (d i : Nat) (a : Int), i + d = s.size → 0 ≤ a → a < 10 ^ i →
    Ev (fun k => barrowref01_number.l0 k s a i) (if ((bytesOf s).drop i).all dig = true then (valFrom a ((bytesOf s).drop i), true) else (0, false))
  | 0, i, a, hd, h0, ha => by
    rw [List.drop_eq_nil_of_le (by rw [bytesOf_length]; omega)]
    refine Ev.step (f := fun _ => some (a, true)) (fun k => ?_) (Ev.now _)
    simp only [barrowref01_number.l0]
    rw [if_neg (by omega)]
  | d + 1, i, a, hd, h0, ha => by
    have hw : wrap64 ((i : Int) + 1) = ((i + 1 : Nat) : Int) := by unfold wrap64; omega
    have hp : (10 : Int) ^ i ≤ 10 ^ 9 := by
      have : (10 : Nat) ^ i ≤ 10 ^ 9 := Nat.pow_le_pow_right (by decide) (by omega)
      exact_mod_cast this
    have hp2 : (10 : Int) ^ (i + 1) = 10 ^ i * 10 := Int.pow_succ 10 i
    rw [bytes_drop s i (by omega), List.all_cons]
    by_cases h1 : bt s i < 48
    · have e : dig (bt s i) = false := by unfold dig; simp; omega
      rw [e, Bool.false_and, if_neg (by decide)]
      refine Ev.step (f := fun _ => some (0, false)) (fun k => ?_) (Ev.now _)
      simp only [barrowref01_number.l0]
      rw [if_pos (by omega), if_pos (by omega), if_pos h1]
    · by_cases h2 : bt s i > 57
      · have e : dig (bt s i) = false := by unfold dig; simp; omega
        rw [e, Bool.false_and, if_neg (by decide)]
        refine Ev.step (f := fun _ => some (0, false)) (fun k => ?_) (Ev.now _)
        simp only [barrowref01_number.l0]
        rw [if_pos (by omega), if_pos (by omega), if_neg h1, if_pos h2]
      · have e : dig (bt s i) = true := by unfold dig; simp; omega
        have hw2 : wrap64 (wrap64 (10 * a) + (bt s i - 48) % 256) = a * 10 + (bt s i - 48) := by unfold wrap64; omega
        have ih := refNumber_l0 s hs d (i + 1) (a * 10 + (bt s i - 48)) (by omega) (by omega) (by rw [hp2]; omega)
        rw [e, Bool.true_and]
        refine Ev.step (fun k => ?_) ih
        simp only [barrowref01_number.l0]
        rw [if_pos (by omega), if_pos (by omega), if_neg h1, if_neg h2, hw, hw2]
theorem refNumber_ev (s : ByteArray) : Ev (fun k => barrowref01_number.f k s) (refNum (bytesOf s)) := by
  have hl := bytesOf_length s
  unfold barrowref01_number.f refNum numOk
  by_cases h0 : (s.size : Int) = 0
  · have e : bytesOf s = [] := List.eq_nil_of_length_eq_zero (by rw [hl]; omega)
    rw [e, if_neg (by decide)]
    refine Ev.step (f := fun _ => some (0, false)) (fun k => ?_) (Ev.now _)
    rw [if_pos h0]
    simp only [barrowref01_number.j0, if_true]
  · have e : bytesOf s ≠ [] := fun h => h0 (by rw [← hl, h]; rfl)
    by_cases h1 : (s.size : Int) > 10
    · rw [if_neg (by rw [hl]; simp; omega)]
      refine Ev.step (f := fun _ => some (0, false)) (fun k => ?_) (Ev.now _)
      rw [if_neg h0, decide_eq_true h1]
      simp only [barrowref01_number.j0, if_true]
    · have ih := refNumber_l0 s (by omega) s.size 0 0 (by omega) (by omega) (by decide)
      have e3 : (decide (bytesOf s ≠ []) && decide ((bytesOf s).length ≤ 10) && (bytesOf s).all dig) = (bytesOf s).all dig := by
        rw [decide_eq_true e, decide_eq_true (by rw [hl]; omega)]; rfl
      rw [e3]
      refine Ev.step (fun k => ?_) ih
      rw [if_neg h0, decide_eq_false h1]
      simp only [barrowref01_number.j0]
      rw [if_neg (by decide)]
      rfl
/-! ### A piece -/
theorem bytes_range (s : ByteArray) (a b : Nat) : bytesOf (s.extract a b) = ((bytesOf s).drop a).take (b - a) := by
  rw [bytes_ints, Lib.extract_data, bytes_ints]
  unfold ints
  rw [List.map_take, List.map_drop]
theorem refPiece_l0 (s : ByteArray) (hs : s.size < 4611686018427387904) : ∀ (d i : Nat), i + d = s.size →
    Ev (fun k => barrowref01_piece.l0 k s i) (match dotsL ((bytesOf s).drop i) with
      | some x => ((refNum ((bytesOf s).take i ++ x.1)).1, (refNum x.2).1, (refNum ((bytesOf s).take i ++ x.1)).2 && (refNum x.2).2)
      | none => ((refNum (bytesOf s)).1, (refNum (bytesOf s)).1, (refNum (bytesOf s)).2)) := by
  have hl := bytesOf_length s
  intro d
  induction d with
  | zero =>
    intro i hd
    rw [List.drop_eq_nil_of_le (by rw [hl]; omega)]
    have hw : wrap64 ((i : Int) + 1) = (i : Int) + 1 := by unfold wrap64; omega
    have := (refNumber_ev s).bind (f := fun (k : Nat) (x : Int × Bool) => some (x.1, x.1, x.2)) (Ev.now _)
    refine Ev.step (fun k => ?_) this
    simp only [barrowref01_piece.l0]
    rw [hw, if_neg (by omega)]
  | succ d ih =>
    intro i hd
    have hw : wrap64 ((i : Int) + 1) = ((i + 1 : Nat) : Int) := by unfold wrap64; omega
    have hw2 : wrap64 ((i : Int) + 2) = ((i + 2 : Nat) : Int) := by unfold wrap64; omega
    have hi := ih (i + 1) (by omega)
    rw [bytes_drop s i (by omega)]
    by_cases h1 : i + 1 < s.size
    · have hd2 := bytes_drop s (i + 1) h1
      by_cases h2 : bt s i = 46 ∧ bt s ((i : Int) + 1) = 46
      · have e : dotsL (bt s i :: (bytesOf s).drop (i + 1)) = some ([], (bytesOf s).drop (i + 2)) := by
          rw [hd2, dotsL, if_pos ⟨h2.1, by have := h2.2; simpa using this⟩]
        rw [e]
        simp only [List.append_nil]
        have b1 : bytesOf (s.extract 0 i) = (bytesOf s).take i := by rw [bytes_range]; simp
        have b2 : bytesOf (s.extract (i + 2) s.size) = (bytesOf s).drop (i + 2) := by
          rw [bytes_from]; unfold ints; rw [List.map_drop]; rfl
        have n1 := refNumber_ev (s.extract 0 i)
        have n2 := refNumber_ev (s.extract (i + 2) s.size)
        rw [b1] at n1; rw [b2] at n2
        have := n1.bind (f := fun (k : Nat) (x : Int × Bool) => (barrowref01_number.f k (s.extract (i + 2) s.size)).bind fun y => if x.2 = true then some (x.1, y.1, y.2) else some (x.1, y.1, false)) (n2.bind (f := fun (k : Nat) (y : Int × Bool) => if (refNum ((bytesOf s).take i)).2 = true then some ((refNum ((bytesOf s).take i)).1, y.1, y.2) else some ((refNum ((bytesOf s).take i)).1, y.1, false)) (r := ((refNum ((bytesOf s).take i)).1, (refNum ((bytesOf s).drop (i + 2))).1, (refNum ((bytesOf s).take i)).2 && (refNum ((bytesOf s).drop (i + 2))).2)) (by
          refine Ev.step (f := fun _ => some ((refNum ((bytesOf s).take i)).1, (refNum ((bytesOf s).drop (i + 2))).1, (refNum ((bytesOf s).take i)).2 && (refNum ((bytesOf s).drop (i + 2))).2)) (fun k => ?_) (Ev.now _)
          by_cases hb : (refNum ((bytesOf s).take i)).2 = true
          · rw [if_pos hb, hb, Bool.true_and]
          · rw [if_neg hb]
            have : (refNum ((bytesOf s).take i)).2 = false := by simpa using hb
            rw [this, Bool.false_and]))
        refine Ev.succ (Ev.step (fun k => ?_) this)
        simp only [barrowref01_piece.l0]
        rw [hw, if_pos (by omega), if_pos (by omega), if_pos (by omega), if_pos h2.1, if_pos (by omega)]
        have hbt : bt s ((i + 1 : Nat) : Int) = 46 := by have := h2.2; simpa using this
        rw [hbt]
        simp only [barrowref01_piece.j1, beq_self_eq_true, if_true]
        rw [if_pos (by omega), if_pos (by omega), hw2, Int.toNat_natCast, Int.toNat_natCast]
        congr 1
        funext x
        rw [if_pos (by omega), if_pos (by omega)]
      · have e : dotsL (bt s i :: (bytesOf s).drop (i + 1)) = (dotsL ((bytesOf s).drop (i + 1))).map fun x => (bt s i :: x.1, x.2) := by
          rw [hd2, dotsL, if_neg (fun h => h2 ⟨h.1, by have := h.2; simpa using this⟩)]
        rw [e]
        have ht : (bytesOf s).take (i + 1) = (bytesOf s).take i ++ [bt s i] := by
          rw [List.take_add_one, bt_getD, Int.toNat_natCast, List.getElem?_eq_getElem (by rw [hl]; omega), List.getD_eq_getElem?_getD, List.getElem?_eq_getElem (by rw [hl]; omega)]
          rfl
        have hgoal : (match (dotsL ((bytesOf s).drop (i + 1))).map (fun x => (bt s i :: x.1, x.2)) with
            | some x => ((refNum ((bytesOf s).take i ++ x.1)).1, (refNum x.2).1, (refNum ((bytesOf s).take i ++ x.1)).2 && (refNum x.2).2)
            | none => ((refNum (bytesOf s)).1, (refNum (bytesOf s)).1, (refNum (bytesOf s)).2)) = (match dotsL ((bytesOf s).drop (i + 1)) with
            | some x => ((refNum ((bytesOf s).take (i + 1) ++ x.1)).1, (refNum x.2).1, (refNum ((bytesOf s).take (i + 1) ++ x.1)).2 && (refNum x.2).2)
            | none => ((refNum (bytesOf s)).1, (refNum (bytesOf s)).1, (refNum (bytesOf s)).2)) := by
          cases dotsL ((bytesOf s).drop (i + 1)) with
          | none => rfl
          | some x => simp only [Option.map_some]; rw [ht, List.append_assoc]; rfl
        rw [hgoal]
        by_cases h3 : bt s i = 46
        · refine Ev.succ (Ev.step (fun k => ?_) hi)
          simp only [barrowref01_piece.l0]
          have hne : bt s ((i + 1 : Nat) : Int) ≠ 46 := fun h => h2 ⟨h3, by simpa using h⟩
          rw [hw, if_pos (by omega), if_pos (by omega), if_pos (by omega), if_pos h3, if_pos (by omega)]
          have hb : (bt s ((i + 1 : Nat) : Int) == 46) = false := by simpa using hne
          rw [hb]
          simp only [barrowref01_piece.j1]
          rw [if_neg (by decide), hw]
        · refine Ev.succ (Ev.step (fun k => ?_) hi)
          simp only [barrowref01_piece.l0]
          rw [hw, if_pos (by omega), if_pos (by omega), if_pos (by omega), if_neg h3]
          simp only [barrowref01_piece.j1]
          rw [if_neg (by decide), hw]
    · have h0 : i + 1 = s.size := by omega
      have e : (bytesOf s).drop (i + 1) = [] := List.drop_eq_nil_of_le (by rw [hl]; omega)
      rw [e]
      have := (refNumber_ev s).bind (f := fun (k : Nat) (x : Int × Bool) => some (x.1, x.1, x.2)) (Ev.now _)
      refine Ev.step (fun k => ?_) this
      simp only [barrowref01_piece.l0]
      rw [hw, if_neg (by omega)]
theorem refPiece_ev (s : ByteArray) (hs : s.size < 4611686018427387904) : Ev (fun k => barrowref01_piece.f k s) ((looseL (bytesOf s)).1.f0, (looseL (bytesOf s)).1.f1, (looseL (bytesOf s)).2) := by
  have h := refPiece_l0 s hs s.size 0 (by omega)
  unfold barrowref01_piece.f
  have e : (match dotsL ((bytesOf s).drop 0) with
      | some x => ((refNum ((bytesOf s).take 0 ++ x.1)).1, (refNum x.2).1, (refNum ((bytesOf s).take 0 ++ x.1)).2 && (refNum x.2).2)
      | none => ((refNum (bytesOf s)).1, (refNum (bytesOf s)).1, (refNum (bytesOf s)).2)) = ((looseL (bytesOf s)).1.f0, (looseL (bytesOf s)).1.f1, (looseL (bytesOf s)).2) := by
    unfold looseL
    rw [List.drop_zero]
    cases dotsL (bytesOf s) with
    | none => rfl
    | some x => rfl
  rw [e] at h
  exact h
end Go.Proofs.YtlmdcpooogaolaaDoor.Txt
